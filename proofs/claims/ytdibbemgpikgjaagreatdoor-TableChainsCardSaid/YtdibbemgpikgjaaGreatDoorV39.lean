/- The texts Lg, Lh, Li, Lj, in this order. -/
import Derived.Test.YtdibbemgpikgjaaGreatDoorV00
import Derived.Test.YtdibbemgpikgjaaGreatDoorV14
import Derived.Test.YtdibbemgpikgjaaGreatDoorV25
import Derived.Test.YtdibbemgpikgjaaGreatDoorV26
import Derived.Test.YtdibbemgpikgjaaGreatDoorV32
import Derived.Test.YtdibbemgpikgjaaGreatDoorV37
namespace Go.Proofs.YtdibbemgpikgjaaGreatDoor
open Go Go.RowKit
def YO (lo:Nat) (A:Option Addr) (ts:List di):Prop:=nM lo A (ts.flatMap di.cells)∧∀y∈ts,xG lo y
theorem Bl.fin {w W:World} {rc:Array Value} {k c:Nat} {A:Option Addr} {ts:List di} (h:Bl w rc k c A ts W):YO w.heap.size A ts:=by
 refine ⟨?_,fun y hy=>(h.mem y hy).low (Nat.le_succ _)⟩
 rcases h.own.2 with ⟨hv,hn⟩|⟨g,cap,cur,hv,hg,_⟩
 ·refine .inl ?_
  rw [h.own.1,hn,Nat.zero_mul]
 ·injection hv with h1 _ _
  exact .inr ⟨g,0,h1,by omega⟩
theorem xG.mono {lo lo':Nat} {y:di} (h:xG lo y) (hl:lo'≤lo):xG lo' y:=
 have f:∀ {A cs},nM lo A cs→nM lo' A cs:=fun h=>h.imp id fun ⟨b,off,e,h1⟩=>⟨b,off,e,Nat.le_trans hl h1⟩
 ⟨f h.1,fun z hz=>⟨f (h.2 z hz).1,f (h.2 z hz).2.1,f (h.2 z hz).2.2.1,f (h.2 z hz).2.2.2⟩⟩
theorem eH.grow {lo:Nat} {v:Value} {W W':World} {y:di} (h:eH lo v W y) (hb:Below W.heap.size W W'):eH lo v W' y:=h.keep hb.size fun b _ h2 h3=>⟨hb.block b h2,h3⟩
theorem TZ {vb B B':Nat} (h:vb<B):∀b,B≤b→b<B'→some b≠(Value.slice (some ⟨vb,0,none⟩) 1 1).ownBlock:=fun b h1 _ e=>by
 have e2:b=vb:=by simpa [Value.ownBlock] using e
 omega
theorem TY {lo:Nat} (B:Nat):∀b,lo≤b→b<B→some b≠(Value.slice (some ⟨B,0,none⟩) 1 1).ownBlock:=fun b _ h1 e=>by
 have e2:b=B:=by simpa [Value.ownBlock] using e
 omega
structure MdT (w:World) (r:kQ) (V:World) (k c:Nat) (A:Option Addr) (ts:List di) (vb:Nat) (y:di) (W:World):Prop where
 md:Bl w r.cells.toArray k c A ts W
 var:AV vb 37 (ai y.t (.slice y.A y.zs.length y.c)) W
 mem:eH (w.heap.size+1) (.slice A k c) W y
 each:Xd y
theorem MdT.of {w V W:World} {r:kQ} {k c vb:Nat} {A:Option Addr} {ts:List di} {y:di} {d:List UInt8} (h:Bl w r.cells.toArray k c A ts V) {cs:Array Value} (hb:Below V.heap.size V (W.setRow vb cs)) (hv:AV vb 37 (ai {y.t with bG:=d} (.slice y.A y.zs.length y.c)) (W.setRow vb cs))
  (hm:eH V.heap.size (.slice (some ⟨vb,0,none⟩) 1 1) W y) (ht:jF W W.heap.size y) (hM:O9 y.t) (hd:d.length=32):MdT w r V k c A ts vb ⟨{y.t with bG:=d},y.A,y.c,y.zs⟩ (W.setRow vb cs):=by
 have hs:(W.setRow vb cs).heap.size=W.heap.size:=by simp [World.setRow]
 have hlt:=h.lt
 have hm2:eH V.heap.size (.slice (some ⟨vb,0,none⟩) 1 1) (W.setRow vb cs) y:=hm.keep (by omega) fun b _ _ h3=>⟨setRow_other _ _ b _ (fun e=>h3 (by rw [e];rfl)),h3⟩
 have Vu:eH (w.heap.size+1) (.slice A k c) (W.setRow vb cs) y:=hm2.vary (by omega) fun b h1 _=>h.nY b h1
 exact ⟨h.grow hb,hv,Vu,⟨hM.QF d,ht.names,ht.prev,hd⟩⟩
end Go.Proofs.YtdibbemgpikgjaaGreatDoor
namespace Go.Proofs.YtdibbemgpikgjaaGreatDoor
open Go Go.RowKit
attribute [local go_sem] jZ kD ku kF nT nV jX kz jY kC
def oU:List PanicEntry:= [{v:= .iface 132 (.agg #[]),recovered:=false}]
def UO (w:World) (e:Ending) (w':World):Prop:=e= .panicked oU∧Below w.heap.size w w'
def YT (w:World) (rb pb:Nat) (t:TypeId) (cs:Array Value) (e:Ending) (w':World):Prop:=e= .panicked oU∧∃C:Array Value,C.size=cs.size∧dH w rb pb t C w'
def o8 (x:Ze):List UInt8:=(le x.name.size 1++x.name.data.toList)++(iP x.z.cal++(le x.z.start 2++(le 0 2++le x.z.hor 8)))
set_option maxRecDepth 10000 in
set_option maxHeartbeats 1000000 in
theorem QU (M:Nat) (w:World) (rb n:Nat) (rest:List UInt8) (hr:jC M w rb rest) (hn:rest.length<n):
  Calls Tryz.prog 179 #[.pointer (some ⟨rb,0,none⟩),I n] w fun e w'=>e= .panicked oU∧w'=w:=by
 obtain ⟨⟨bb,off,c,h1,_⟩,_⟩:=hr
 have hc0:w.cell? ⟨rb,0,none⟩=some (.slice (some ⟨bb,off,none⟩) rest.length c):=cell_of_row w rb 0 _ _ _ h1
 obtain ⟨m,hm⟩:∃m,rest.length=m:=⟨_,rfl⟩
 rw [hm] at hc0 hn
 have n0:(m:Int)<(n:Int):=by omega
 clear h1 hm
 go_enter Tryz.func179,Tryz.ntmps179
 go_wp2
 exact ⟨rfl,rfl,rfl⟩
set_option maxRecDepth 10000 in
set_option maxHeartbeats 1000000 in
theorem Hl (M:Nat) (w:World) (rb pb po size:Nat) (t:TypeId) (cs:Array Value) (rest:List UInt8) (hr:jC M w rb rest) (hn:rest.length<size) (hp:w.heap[pb]? =some (.cells cs t (0,0))) (hpo:po<cs.size) (Df:M≤pb) (hne:pb≠rb):
  Calls Tryz.prog 176 #[pt rb, .pointer (some ⟨pb,po,none⟩),I size] w fun e w'=>e= .panicked oU∧fU pb w w':=by
 refine (callsIn_wide (n:=3)).1 ?_
 have hro:Fence.wide.round=none:=rfl
 have h1:1≤3:=by omega
 have hlt:=hr.lt
 have hpl:pb<w.heap.size:=(Array.getElem?_eq_some_iff.1 hp).1
 have hMl:=hr.lo
 have hc0:w.cell? ⟨pb,po,none⟩=some cs[po]:=by rw [cell_of_row w pb po _ _ _ hp];exact Array.getElem?_eq_getElem hpo
 have hf0:w.frozen? ⟨pb,po,none⟩=false:=frozen_of_row w pb po _ _ hp
 obtain ⟨WS,hWS⟩:∃W,w.setCell ⟨pb,po,none⟩ (I 0)=W:=⟨_,rfl⟩
 have XJ:fU pb w WS:=by rw [←hWS];exact ⟨rfl,rfl,rfl,by simp [World.setCell],fun k _ hk2=>heap_setCell_other _ _ k _ hk2⟩
 obtain ⟨W1,hW1⟩:∃W,WS.alloc (.cells #[.pointer (some ⟨pb,po,none⟩)] 109)=W:=⟨_,rfl⟩
 have hk1:fU pb w W1:=by
  rw [←hW1]
  exact ⟨XJ.os,XJ.tape,XJ.output,Nat.le_trans XJ.size (by simp),fun k hk hk2=>(Below.heap_alloc WS _ k (Nat.lt_of_lt_of_le hk XJ.size)).trans (XJ.block k hk hk2)⟩
 rw [←hWS] at hW1
 have hr1:jC M W1 rb rest:=hr.of (hk1.block rb hlt (fun e=>hne e.symm)) fun k hk=>hk1.block k (by omega) (by omega)
 have HT:=ae (QU M W1 rb size rest hr1 hn)
 have gY:=ae hk1
 have HW1:=ae hW1
 clear hr hr1 hk1 XJ hW1 hWS hp
 refine callsIn_of_wp_marks Tryz.func176 rfl trivial ?_ hro
 simp only [Tryz.ntmps176,List.size_toArray,List.length_cons,List.length_nil,Nat.reduceAdd,Nat.reduceSub,Array.replicate_succ,Array.replicate_zero,List.push_toArray,List.append_toArray,List.nil_append,List.cons_append]
 gi_wp2_with first
  |(refine ⟨trivial,?_⟩;gi_at_call 179;rw [HW1.out];refine (callsIn_wide.2 HT.out).mono ?_;rintro e w2 ⟨rfl,rfl⟩)
 exact ⟨rfl,gY.out⟩
set_option maxRecDepth 10000 in
set_option maxHeartbeats 1000000 in
theorem Hf (M:Nat) (w:World) (rb size:Nat) (m:Int) (rest:List UInt8) (hr:jC M w rb rest) (hn:rest.length<size):
  Calls Tryz.prog 175 #[pt rb,I m,I size] w (UO w):=by
 have hl:=hr.lt
 have hlo:=hr.lo
 have hb:=ag w (.cells #[I 0] 3)
 have hpl:=heap_alloc_last w (.cells #[I 0] 3)
 have HC:=ae (Hl M (w.alloc (.cells #[I 0] 3)) rb w.heap.size 0 size 3 #[I 0] rest (hr.below hb hl) hn hpl (by decide) (by omega) (by omega))
 have HB:=ae hb
 clear hr hb hpl
 go_enter Tryz.func175,Tryz.ntmps175
 go_wp2_with fail
 refine HC.out.mono ?_
 rintro e w1 ⟨rfl,hk⟩
 exact ⟨rfl,rfl,hk.os,hk.tape,hk.output,by have:=hk.size;simp at this;omega,fun k hk2=>(hk.block k (by simp;omega) (by omega)).trans (HB.out.block k hk2)⟩
set_option maxRecDepth 10000 in
set_option maxHeartbeats 1000000 in
theorem BX (M:Nat) (w:World) (rb lb lo:Nat) (A:Option Addr) (c:Nat) (hp:w.cell? ⟨lb,lo,none⟩=some (.slice A 0 c)) (hr:jC M w rb []):
  Calls Tryz.prog 71 #[.iface 134 (pt rb), .pointer (some ⟨lb,lo,none⟩),I 1, .func (.func 72) #[] #[]] w (UO w):=by
 have HC:=ae (Hf M w.drew rb 1 0 [] hr.drew (by decide))
 clear hr
 go_enter Tryz.func71,Tryz.ntmps71
 go_wp2_with fail
 go_still_tail 9,(by kernel_rfl)
 go_wp2_with fail
 refine HC.out.mono ?_
 rintro e w1 ⟨rfl,hb1⟩
 exact ⟨rfl,rfl,hb1.os,hb1.tape,hb1.output,hb1.size,hb1.block⟩
set_option maxRecDepth 10000 in
set_option maxHeartbeats 4000000 in
theorem J5 (M:Nat) (w:World) (rb eb eo:Nat) (t:TypeId) (cs:Array Value) (x:Ze) (hf:fP x.z) (hs:x.name.size≤32) (hr:jC M w rb (o8 x)) (hp:w.heap[eb]? =some (.cells cs t (0,0))) (hz:∀j,j<9→cs[eo+j]? =iV[j]?) (hM:M≤eb) (hne:eb≠rb):
  Calls Tryz.prog 49 #[.iface 134 (pt rb), .pointer (some ⟨eb,eo,none⟩)] w (YT w rb eb t cs):=by
 have hel:eb<w.heap.size:=(Array.getElem?_eq_some_iff.1 hp).1
 have hrw:=hr.lt
 have hz0:cs[eo]? =some (.string ⟨#[]⟩):=hz 0 (by decide)
 have hz8:eo+8<cs.size:=(Array.getElem?_eq_some_iff.1 ((hz 8 (by decide)).trans (rfl:iV[8]? =some (.slice none 0 0)))).1
 have hr':jC M w.drew rb ((le x.name.size 1++x.name.data.toList)++(iP x.z.cal++(le x.z.start 2++(le 0 2++le x.z.hor 8)))):=by
  have h:=hr.drew
  unfold o8 at h
  simpa only [List.append_assoc] using h
 have nH:=ae (Dw M w.drew rb eb eo t cs ⟨#[]⟩ x.name _ hr' (by omega) hp hz0 hM hne)
 have HZ:Hid (∀j,1≤j→j<9→cs[eo+j]? =iV[j]?):=ae fun j _ hj=>hz j hj
 have HF:=ae hf
 have Qc:=hf.start
 have hho0:=hf.hor
 clear hf hs hr hr' hp hz hz0
 go_enter Tryz.func49,Tryz.ntmps49
 go_wp2_with fail
 go_still_tail 7,(by kernel_rfl)
 go_wp2_with fail
 refine nH.out.mono ?_
 rintro e w1 ⟨rfl,hr1,hp1⟩
 obtain ⟨C1,PT⟩:∃C,cs.setIfInBounds eo (.string x.name)=C:=⟨_,rfl⟩
 rw [PT] at hp1
 have k1:∀j,1≤j→j<9→C1[eo+j]? =iV[j]? :=fun j h1 h2=>by rw [←PT,Array.getElem?_setIfInBounds_ne (by omega)];exact HZ.out j h1 h2
 have l1:C1.size=cs.size:=by rw [←PT,Array.size_setIfInBounds]
 have xB:=ae hp1.iJ
 have oJ:=ae PT
 have HC2:=ae (qR M w1 rb eb (eo+1) t C1 x.z.cal _ HF.out.cal hr1 hp1.tgt (by omega) (k1 2 (by decide) (by decide)) (k1 3 (by decide) (by decide)) (k1 4 (by decide) (by decide)) hM hne)
 have gY:=ae k1
 clear hr1 hp1 nH PT k1
 go_wp2_with fail
 refine HC2.out.mono ?_
 rintro e w2 ⟨rfl,A,a,hr2,hp2,ho2⟩
 obtain ⟨C2,hC2⟩:∃C,((C1.setIfInBounds (eo+1) (I x.z.cal.aK)).setIfInBounds (eo+1+1) (.slice A x.z.cal.au.length a)).setIfInBounds (eo+1+2) (I (-1))=C:=⟨_,rfl⟩
 rw [hC2] at hp2
 have k2:∀j,4≤j→j<9→C2[eo+j]? =iV[j]? :=fun j h1 h2=>by rw [←hC2,Array.getElem?_setIfInBounds_ne (by omega),Array.getElem?_setIfInBounds_ne (by omega),Array.getElem?_setIfInBounds_ne (by omega)];exact gY.out j (by omega) h2
 have l2:C2.size=cs.size:=by rw [←hC2,Array.size_setIfInBounds,Array.size_setIfInBounds,Array.size_setIfInBounds];exact l1
 have HP2:=ae (xB.out.trans hp2)
 have vk:=ae (bu ho2 xB.out.size)
 have lH:=ae hC2
 have rD:=ae (yc M w2.drew rb eb (eo+1+4) t C2 x.z.start _ hr2.drew (by omega) (by omega) hp2.tgt (by omega) hM hne)
 have iO:=ae k2
 clear hr2 hp2 ho2 HC2 hC2 k2
 go_wp2_with fail
 go_still_tail 7,(by kernel_rfl)
 go_wp2_with fail
 refine rD.out.mono ?_
 rintro e w3 ⟨rfl,hr3,hp3⟩
 obtain ⟨C3,PU⟩:∃C,C2.setIfInBounds (eo+1+4) (I x.z.start)=C:=⟨_,rfl⟩
 rw [PU] at hp3
 have k3:∀j,6≤j→j<9→C3[eo+j]? =iV[j]? :=fun j h1 h2=>by rw [←PU,Array.getElem?_setIfInBounds_ne (by omega)];exact iO.out j (by omega) h2
 have l3:C3.size=cs.size:=by rw [←PU,Array.size_setIfInBounds];exact l2
 have hk3:∀b,w.heap.size≤b→b<w2.heap.size→w3.heap[b]? =w2.heap[b]? :=fun b h1 h2=>hp3.block b h2 (by omega) (by omega)
 have wL:=ae (dA vk.out hk3)
 have o9:=ae (HP2.out.trans hp3.iJ)
 have yR:=ae PU
 have qX:=ae (pV M w3 rb eb (eo+1+5) none 0 _ ((hp3.cell _).trans (k3 6 (by decide) (by decide))) hr3)
 have lV:=ae k3
 clear hr3 hp3 rD PU k3 hk3
 go_wp2_with fail
 refine qX.out.mono ?_
 rintro e w4 ⟨rfl,hr4,hk4⟩
 have DK:=ae (o9.out.sG hk4 (Nat.lt_of_lt_of_le hel o9.out.size) hne)
 have Fb:=ae (jI wL.out hk4 hrw)
 have xA:=ae (iy M w4.drew rb eb (eo+1+6) 8 t C3 x.z.hor x.z.hor [] (by rw [List.append_nil];exact hr4.drew) (by omega) (VA _ (by unfold fits;omega) _) DK.out.tgt (by omega) hM hne)
 clear hr4 hk4 qX
 go_wp2_with fail
 go_still_tail 7,(by kernel_rfl)
 go_wp2_with fail
 refine xA.out.mono ?_
 rintro e w5 ⟨rfl,tq,Iw⟩
 have hk5:∀b,w.heap.size≤b→b<w4.heap.size→w5.heap[b]? =w4.heap[b]? :=fun b h1 h2=>Iw.block b h2 (by omega) (by omega)
 have kT:=ae (dA Fb.out hk5)
 have Cj:=ae (DK.out.trans Iw.iJ)
 have Fp:=ae (BX M w5 rb eb (eo+1+7) none 0 ((Iw.cell _).trans (by rw [Array.getElem?_setIfInBounds_ne (by omega)];exact lV.out 8 (by decide) (by decide))) tq)
 clear tq Iw xA hk5
 go_wp2_with fail
 refine Fp.out.mono ?_
 rintro e w6 ⟨rfl,hb6⟩
 exact ⟨rfl,rfl,_,by rw [Array.size_setIfInBounds,l3],Cj.out.grow hb6 (Nat.lt_of_lt_of_le hel Cj.out.size) hne⟩
end Go.Proofs.YtdibbemgpikgjaaGreatDoor
namespace Go.Proofs.YtdibbemgpikgjaaGreatDoor
open Go Go.RowKit
attribute [local go_sem] jZ kD ku kF nT nV jX kz jY kC
def YV (w:World) (rb pb po:Nat) (t:TypeId) (cs:Array Value) (e:Ending) (w':World):Prop:=e= .panicked oU∧∃g c,dH w rb pb t (cs.setIfInBounds po (.slice (some ⟨g,0,none⟩) 1 c)) w'
def YU (w:World) (rb tb:Nat) (t:Tb) (e:Ending) (w':World):Prop:=e= .panicked oU∧∃g c,dH w rb tb 37 (ai {t with bG:=aY,aS:= []} (.slice (some ⟨g,0,none⟩) 1 c)) w'
def oP (t:Tb) (x:Ze):List UInt8:=le t.aW 1++(le t.version 1++(le t.aI 1++(t.prev++(le 1 1++o8 x))))
set_option maxRecDepth 10000 in
set_option maxHeartbeats 4000000 in
theorem Hg (M:Nat) (w:World) (rb pb po:Nat) (t:TypeId) (cs:Array Value) (x:Ze) (Qd:fP x.z∧x.name.size≤32) (hr:jC M w rb (le 1 1++o8 x)) (hp:w.heap[pb]? =some (.cells cs t (0,0))) (hpo:cs[po]? =some (.slice none 0 0)) (Df:M≤pb) (hne:pb≠rb):
  Calls Tryz.prog 48 #[.iface 134 (pt rb), .pointer (some ⟨pb,po,none⟩),I 1, .func (.func 49) #[] #[]] w (YV w rb pb po t cs):=by
 have hpl:pb<w.heap.size:=(Array.getElem?_eq_some_iff.1 hp).1
 have hlo:=hr.lo
 have hrl:=hr.lt
 have hcs:cs.setIfInBounds po (.slice none 0 0)=cs:=by
  apply Array.ext_getElem?
  intro i
  rw [Array.getElem?_setIfInBounds]
  split
  ·rename_i e;subst e
   split
   ·exact hpo.symm
   ·rename_i e2;rw [Array.getElem?_eq_none (by omega)] at hpo;cases hpo
  ·rfl
 have hc0:w.cell? ⟨pb,po,none⟩=some (.slice none 0 0):=(cell_of_row w pb po _ _ _ hp).trans hpo
 have hpos:po<cs.size:=(Array.getElem?_eq_some_iff.1 hpo).1
 have HC:=ae (jk M w.drew rb 1 0 1 1 (o8 x) hr.drew (by omega) (oO _ (by omega) (by omega) _))
 have HP:Hid (dH w rb pb t (cs.setIfInBounds po (.slice none 0 0)) w):=ae (by rw [hcs];exact dH.refl hp)
 have WR:=ae Qd
 clear hr hp hpo hcs Qd
 obtain ⟨i0,hi,hz0,hz1,hz2⟩:=info_parts vK
 go_enter Tryz.func48,Tryz.ntmps48
 go_wp2_with fail
 go_still_tail 9,(by kernel_rfl)
 go_wp2_with fail
 refine HC.out.mono ?_
 rintro e w1 ⟨rfl,hr1,hk1⟩
 have HR1:=ae hr1
 have xB:=ae (HP.out.drew.sG hk1 hpl hne)
 clear hr1 hk1 HC hc0
 go_wp2_with fail
 go_loopw [22] (fun i wr=>i= .int .i64 0∧jC M wr rb (o8 x)∧dH w rb pb t (cs.setIfInBounds po (.slice none 0 0)) wr) (fun _ _=>0)
 case atStart=>exact ⟨rfl,HR1.out,xB.out⟩
 case round=>
  obtain ⟨rfl,hr,hp⟩:=hrel
  have HR:=ae hr
  have Cm:=ae hp
  have hcp:wr.cell? ⟨pb,po,none⟩=some (.slice none 0 0):=(hp.cell po).trans (by simp [hpos])
  have hsw:=hp.size
  clear hr hp HR1 xB HP
  have V7:Hid (∀j u,iV.toList[j]? =some u→(((wr.alloc (.cells iV 90)).alloc (.cells iV 90)).drew).cell? ((⟨wr.heap.size+1,0,none⟩:Addr).add j)=some u):=ae fun j u hu=>by
   rw [addr_add]
   have h:=(Row.new (wr.alloc (.cells iV 90)) iV 90).2 j
   rw [World.size_alloc] at h
   exact h.trans (by simpa using hu)
  have V8:Hid (∀u∈iV.toList,u.oneCell'=true):=ae (by
   intro u hu
   have h:iV.all (·.oneCell')=true:=by kernel_rfl
   rw [Array.all_eq_true_iff_forall_mem] at h
   exact h u (by simpa using hu))
  have hplw:pb<wr.heap.size:=by omega
  have hmx:0+1≤maxLen:=by unfold maxLen;omega
  have hby:(0+1)*144≤140737488355328:=by omega
  have Yp:Hid (w.heap.size≤(((wr.alloc (.cells iV 90)).alloc (.cells iV 90)).drew).heap.size):=ae (by simp;omega)
  have eX:Hid ((((wr.alloc (.cells iV 90)).alloc (.cells iV 90)).drew).heap.size=wr.heap.size+2):=ae (by simp)
  have HOO:Hid ((((wr.alloc (.cells iV 90)).alloc (.cells iV 90)).drew).ownsRow w.heap.size 90 9 (.slice none 0 0) 0 []):=ae (World.ownsRow_nil _ _ _ _)
  have RZ:Hid (∀b,b<wr.heap.size→(((wr.alloc (.cells iV 90)).alloc (.cells iV 90)).drew).heap[b]? =wr.heap[b]?):=ae fun b hb=>(Below.heap_alloc (wr.alloc (.cells iV 90)) _ b (by simp;omega)).trans (Below.heap_alloc wr _ b hb)
  go_wp2_with fail
  go_region_law (refine step_append_lies _ (by rfl) _ _ _ (by rfl) w.heap.size 90 i0 (.agg iV) 9 144 Tryz.underlying35 hi hz0 hz1 hz2 (by rfl) (by omega) (.slice none 0 0) 0 [] (by rfl) HOO.out ⟨wr.heap.size+1,0,none⟩ 1 1 iV.toList (by rfl) (by rfl) V7.out V8.out (by omega) hmx hby Yp.out (wr.heap.size+2) eX.out ?_;intro g2 c2 w2 hown2 hgrow2 Jn hlt2;have hbw:∀b,b<w.heap.size→w2.heap[b]? =wr.heap[b]? :=fun b hb=>(hgrow2.block b (Nat.lt_of_lt_of_eq (show b<wr.heap.size+2 by omega) eX.out.symm) (by simp [Value.ownBlock])).trans (RZ.out b (by omega));have HP2:Hid (w2.heap[pb]? =some (.cells (cs.setIfInBounds po (.slice none 0 0)) t (0,0))):=ae ((hbw pb hpl).trans Cm.out.tgt);have hcp2:w2.cell? ⟨pb,po,none⟩=some (.slice none 0 0):=(cell_of_row w2 pb po _ _ _ HP2.out).trans (by simp [hpos]);have TJ:=frozen_of_row w2 pb po _ _ HP2.out;have qW:=ae hbw;have vk:=ae hown2;have HG2:=ae hgrow2;have HA2:=ae Jn;clear hbw hown2 hgrow2 Jn)
  all_goals
   have hs2:wr.heap.size+2≤w2.heap.size:=Nat.le_trans (Nat.le_of_eq eX.out.symm) HG2.out.size
   have hlo2:=jL vk.out
   have hP3:dH w rb pb t (cs.setIfInBounds po (.slice (some ⟨g2,0,none⟩) 1 c2)) (w2.setCell ⟨pb,po,none⟩ (.slice (some ⟨g2,0,none⟩) 1 c2)):=by
    have h:dH w rb pb t (cs.setIfInBounds po (.slice none 0 0)) w2:=⟨HG2.out.os.trans Cm.out.os,HG2.out.tape.trans Cm.out.tape,HG2.out.output.trans Cm.out.output,by omega,fun b hb h1 h2=>(qW.out b hb).trans (Cm.out.block b hb h1 h2),HP2.out⟩
    have h:=h.put po (.slice (some ⟨g2,0,none⟩) 1 c2)
    rwa [Array.setIfInBounds_setIfInBounds] at h
   have Vr:jC M (w2.setCell ⟨pb,po,none⟩ (.slice (some ⟨g2,0,none⟩) 1 c2)) rb (o8 x):=(HR.out.of (qW.out rb hrl) fun b hb=>qW.out b (by omega)).put Df hne _
   have hO3:(w2.setCell ⟨pb,po,none⟩ (.slice (some ⟨g2,0,none⟩) 1 c2)).ownsRow w.heap.size 90 9 (.slice (some ⟨g2,0,none⟩) (0+1) c2) (0+1) ([]++iV.toList):=dI (p:=⟨pb,po,none⟩) vk.out (by intro e;injection e with e;simp only at e;omega)
   have o9:=ae hP3
   have HR3:=ae Vr
   have wL:=ae hO3
   clear hP3 Vr hO3 HP2 qW vk HG2 HA2 hcp
   go_wp2_with fail
   obtain ⟨w3,hw3⟩:∃W,w2.setCell ⟨pb,po,none⟩ (.slice (some ⟨g2,0,none⟩) 1 c2)=W:=⟨_,rfl⟩
   (try rw [hw3] at o9 HR3 wL ⊢)
   obtain ⟨cur,q1,q2,q3,q4,q5,q6,q7,_⟩:=ni wL.out
   have hzz:∀j,j<9→cur[0+j]? =iV[j]? :=fun j hj=>by
    have h:(cur.toList.take ((0+1)*9))[j]? =([]++iV.toList)[j]? :=by rw [q6]
    rw [List.getElem?_take_of_lt (by omega)] at h
    simpa using h
   refine (J5 M w3 rb g2 0 90 cur x WR.out.1 WR.out.2 HR3.out q1 hzz (by omega) (by omega)).mono ?_
   rintro e w4 ⟨rfl,C,_,ry⟩
   exact ⟨rfl,rfl,g2,c2,⟨ry.os.trans o9.out.os,ry.tape.trans o9.out.tape,ry.output.trans o9.out.output,Nat.le_trans o9.out.size ry.size,fun b hb h1 h2=>(ry.block b (Nat.lt_of_lt_of_le hb o9.out.size) (by omega) h2).trans (o9.out.block b hb h1 h2),(ry.block pb (Nat.lt_of_lt_of_le hpl o9.out.size) (by omega) hne).trans o9.out.tgt⟩⟩
set_option maxRecDepth 10000 in
set_option maxHeartbeats 2000000 in
theorem J7 (M:Nat) (w:World) (rb tb:Nat) (t:Tb) (x:Ze) (h:jU t) (Qd:fP x.z∧x.name.size≤32) (hr:jC M w rb (oP t x)) (hp:w.heap[tb]? =some (.cells (ai bJ (.slice none 0 0)) 37 (0,0))) (hM:M≤tb) (hne:tb≠rb):
  Calls Tryz.prog 30 #[.iface 134 (pt rb), .pointer (some ⟨tb,0,none⟩)] w (YU w rb tb t):=by
 have hel:tb<w.heap.size:=(Array.getElem?_eq_some_iff.1 hp).1
 have hrw:=hr.lt
 have hz:∀(u:Tb) (v:Value),u.prev.length=32→u.bG.length=32→(ai u v).size=68:=fun u v h1 h2=>bn u v h1 h2
 have hr':jC M w.drew rb (le t.aW 1++(le t.version 1++(le t.aI 1++(t.prev++(le 1 1++o8 x))))):=hr.drew
 have q1:=h.aW
 have q2:=h.version
 have q3:=h.aI
 have nH:=ae (iy M w.drew rb tb 0 1 37 _ t.aW t.aW _ hr' (by omega) (oO _ (by omega) (by omega) _) hp (by rw [hz _ _ rfl rfl];decide) hM hne)
 have HF:=ae h
 have HZ:=ae hz
 clear h hr hr' hp hz
 go_enter Tryz.func30,Tryz.ntmps30
 go_wp2_with fail
 go_still_tail 7,(by kernel_rfl)
 go_wp2_with fail
 refine nH.out.mono ?_
 rintro e w1 ⟨rfl,hr1,hp1⟩
 rw [vU] at hp1
 have xB:=ae hp1.iJ
 have HC2:=ae (iy M w1.drew rb tb 1 1 37 _ t.version t.version _ hr1.drew (by omega) (oO _ (by omega) (by omega) _) hp1.tgt (by rw [HZ.out _ _ rfl rfl];decide) hM hne)
 clear hr1 hp1 nH
 go_wp2_with fail
 go_still_tail 7,(by kernel_rfl)
 go_wp2_with fail
 refine HC2.out.mono ?_
 rintro e w2 ⟨rfl,hr2,hp2⟩
 rw [uA] at hp2
 have HP2:=ae (xB.out.trans hp2.iJ)
 have rD:=ae (iy M w2.drew rb tb 2 1 37 _ t.aI t.aI _ hr2.drew (by omega) (oO _ (by omega) (by omega) _) hp2.tgt (by rw [HZ.out _ _ rfl rfl];decide) hM hne)
 clear hr2 hp2 HC2
 go_wp2_with fail
 go_still_tail 7,(by kernel_rfl)
 go_wp2_with fail
 refine rD.out.mono ?_
 rintro e w3 ⟨rfl,hr3,hp3⟩
 rw [qQ] at hp3
 have o9:=ae (HP2.out.trans hp3.iJ)
 have qX:=ae (xZ M w3.drew rb tb 4 37 _ t.prev _ hr3.drew HF.out.prev hp3.tgt (by rw [HZ.out _ _ rfl rfl];decide) hM hne)
 clear hr3 hp3 rD
 go_wp2_with fail
 go_still_tail 7,(by kernel_rfl)
 go_wp2_with fail
 refine qX.out.mono ?_
 rintro e w4 ⟨rfl,hr4,ry⟩
 rw [AA _ _ _ rfl HF.out.prev] at ry
 have DK:=ae (o9.out.trans ry.iJ)
 have xA:=ae (Hg M w4 rb tb 3 37 _ x Qd hr4 ry.tgt (bC _ _) hM hne)
 clear hr4 ry qX
 go_wp2_with fail
 refine xA.out.mono ?_
 rintro e w5 ⟨rfl,g,c,Iw⟩
 rw [mF] at Iw
 exact ⟨rfl,rfl,g,c,DK.out.trans Iw⟩
end Go.Proofs.YtdibbemgpikgjaaGreatDoor
namespace Go.Proofs.YtdibbemgpikgjaaGreatDoor
open Go Go.RowKit
attribute [local go_sem] jZ kD ku kF nT nV jX kz jY kC
set_option maxRecDepth 10000 in
set_option maxHeartbeats 1000000 in
theorem EJ (b:Nat) (w:World) (v:Value) (hq:w.heap[b]? =some (.cells #[v] 4 (0,0))):
  CallsD Tryz.prog 56 #[.pointer (some ⟨b,0,none⟩)] (.panicking oU) w fun e u' w'=>e= .returned (.tuple #[])∧u'= .panicking [{v:= .iface 132 (.agg #[]),recovered:=true}]∧fU b w w'∧w'.heap[b]? =some (.cells #[.bool false] 4 (0,0)):=by
 have hnn:∀w,(binOp .neq 20 (.iface 132 (.agg #[])) .nilIface).run Tryz.prog w= .ok (.bool true) w:=by intro w;simp [go_sem]
 have hta:∀w,(Instr.typeAssert (.iface 132 (.agg #[])) 20 132 true).run Tryz.prog w= .ok (.tuple #[.agg #[], .bool true]) w:=by intro w;kernel_rfl
 have HB1:=ae (ag w (.cells #[] 132))
 have hq1:(w.alloc (.cells #[] 132)).heap[b]? =some (.cells #[v] 4 (0,0)):=(HB1.out.block _ (ik hq)).trans hq
 have hcc:=cell_of_row _ b 0 _ _ _ hq1
 have hfc:=frozen_of_row _ b 0 _ _ hq1
 have HK:Hid (fU b w ((w.alloc (.cells #[] 132)).setCell ⟨b,0,none⟩ (.bool false))):=ae ⟨rfl,rfl,rfl,by simp [World.setCell],fun k hk hn=>(heap_setCell_other _ ⟨b,0,none⟩ k _ hn).trans (Below.heap_alloc w _ k hk)⟩
 have HQ:Hid (((w.alloc (.cells #[] 132)).setCell ⟨b,0,none⟩ (.bool false)).heap[b]? =some (.cells #[.bool false] 4 (0,0))):=ae (by rw [heap_setCell_same _ b 0 _ _ _ hq1];rfl)
 clear hq hq1 HB1
 unfold oU
 refine callsD_of_wpS Tryz.func56 rfl fun c₀ cs hu=>?_
 apply wpS_seq
 apply wpS_region
 simp [wpOpsS,go_sem,recoverD,hu,Tryz.ntmps56,Exit.thenS]
 refine wpS_of_wp ?_
 simp only [Array.replicate_succ,Array.replicate_zero,List.push_toArray,List.append_toArray,List.nil_append,List.cons_append,List.setIfInBounds_toArray,List.set_cons_zero,List.set_cons_succ]
 go_wp2_with fail
 simp [bodyPostS,results,Tryz.results56]
 exact ⟨HK.out,HQ.out⟩
set_option maxRecDepth 10000 in
set_option maxHeartbeats 2000000 in
theorem QR (w:World) (t:Tb) (x:Ze) (N b off c:Nat) (h:jU t) (Qd:fP x.z∧x.name.size≤32) (hN:(oP t x).length=N) (hbl:b<w.heap.size) (hc1:N≤c) (hc2:c≤9223372036854775807)
  (hA:∀j,j<N→w.cell? ⟨b,off+j,none⟩=some (Extern.Stop.cell ((oP t x)[j]?.getD 0))):
  Calls Tryz.prog 35 #[.slice (some ⟨b,off,none⟩) N c] w fun e w'=>(∃g cz,e= .returned (.tuple #[.agg (ai {t with bG:=aY,aS:= []} (.slice (some ⟨g,0,none⟩) 1 cz)), .bool false]))∧Below w.heap.size w w':=by
 have hmf:∀(fn:Fn) (first cap:Array Value) (w:World),(Instr.makeFunc fn first cap).run Tryz.prog w= .ok (.func fn first cap) w:=fun _ _ _ _=>rfl
 obtain ⟨W,hW⟩:∃W,((w.alloc (.cells (ai bJ (.slice none 0 0)) 37)).alloc (.cells #[.bool false] 4)).alloc (.cells #[.slice (some ⟨b,off,none⟩) N c] 135)=W:=⟨_,rfl⟩
 have hB:Below w.heap.size w W:=by rw [←hW];exact (((Below.refl _ w).alloc (Nat.le_refl _) _).alloc (by simp) _).alloc (by simp;omega) _
 have hs:W.heap.size=w.heap.size+3:=by rw [←hW];simp
 have ht:W.heap[w.heap.size]? =some (.cells (ai bJ (.slice none 0 0)) 37 (0,0)):=by rw [←hW];exact (Below.heap_alloc _ _ _ (by simp;omega)).trans (heap_alloc2_old w _ _)
 have ho:W.heap[w.heap.size+1]? =some (.cells #[.bool false] 4 (0,0)):=by rw [←hW];exact (Below.heap_alloc _ _ _ (by simp)).trans (heap_alloc2_new w _ _)
 have hr:jC w.heap.size W (w.heap.size+2) (oP t x):=by
  refine ⟨⟨b,off,c,?_,by rw [hN];exact hc1,hc2,hbl,fun j hj=>(hB.cell (p:=⟨b,off+j,none⟩) hbl).trans (hA j (by omega))⟩,by omega⟩
  rw [←hW,hN]
  have:=heap_alloc_last ((w.alloc (.cells (ai bJ (.slice none 0 0)) 37)).alloc (.cells #[.bool false] 4)) (.cells #[.slice (some ⟨b,off,none⟩) N c] 135)
  simpa using this
 have HB:=ae hB
 have HS:=ae hs
 have HO:=ae ho
 have HC:=ae (J7 w.heap.size W (w.heap.size+2) w.heap.size t x h Qd hr ht (Nat.le_refl _) (by omega))
 have Em:=h.prev
 clear h hN hA hB hs ht ho hr
 go_enter_defers Tryz.func35,Tryz.ntmps35
 go_wp2_with fail
 rw [kL,hW]
 refine HC.out.mono ?_
 rintro e w2 ⟨rfl,g,cz,hp2⟩
 have hs0:=HS.out
 have ho2:w2.heap[w.heap.size+1]? =some (.cells #[.bool false] 4 (0,0)):=(hp2.block _ (by omega) (by omega) (by omega)).trans HO.out
 have HB2:=ae (hp2.grown HB.out (Nat.le_refl _) (by omega) (by omega))
 refine leaves_cons (f:=56) (args:= #[.pointer (some ⟨w.heap.size+1,0,none⟩)]) (by simp) (by simp [go_sem]) ?_
 refine (EJ (w.heap.size+1) w2 (.bool false) ho2).mono ?_
 rintro e u' w3 ⟨rfl,rfl,hk3,hq3⟩
 have hv3:w3.heap[w.heap.size]? =some (.cells (ai {t with bG:=aY,aS:= []} (.slice (some ⟨g,0,none⟩) 1 cz)) 37 (0,0)):=(hk3.block _ (by have:=hp2.size;omega) (by omega)).trans hp2.tgt
 have hc3:=cell_of_row _ (w.heap.size+1) 0 _ _ _ hq3
 refine ⟨_,pU rfl _ _ w.heap.size (w.heap.size+1) _ (ai {t with bG:=aY,aS:= []} (.slice (some ⟨g,0,none⟩) 1 cz)) (0,0) _ (.bool false) rfl hv3 Tryz.underlying37 rfl (bV {t with bG:=aY,aS:= []} _ Em rfl) rfl (iI _ _ _ hc3),⟨g,cz,rfl⟩,?_⟩
 have h1:=HB2.out
 exact ⟨hk3.os.trans h1.os,hk3.tape.trans h1.tape,hk3.output.trans h1.output,Nat.le_trans h1.size hk3.size,fun k hk=>(hk3.block k (Nat.lt_of_lt_of_le hk h1.size) (by omega)).trans (h1.block k hk)⟩
set_option maxRecDepth 10000 in
set_option maxHeartbeats 2000000 in
theorem EH (w:World) (t:Tb) (x:Ze) (N b off c:Nat) (h:jU t) (Qd:fP x.z∧x.name.size≤32) (hN:(oP t x).length=N) (hbl:b<w.heap.size) (hc1:N≤c) (hc2:c≤9223372036854775807)
  (hA:∀j,j<N→w.cell? ⟨b,off+j,none⟩=some (Extern.Stop.cell ((oP t x)[j]?.getD 0))):
  Calls Tryz.prog 20 #[.slice (some ⟨b,off,none⟩) N c] w (Gives (.tuple #[.agg (ai bJ (.slice none 0 0)), .int .i64 3]) w):=by
 have HW0:=ae (AV.new w (ai bJ (.slice none 0 0)) 37)
 have HB0:=ae (ag w (.cells (ai bJ (.slice none 0 0)) 37))
 have HC:Hid (∀W,Below w.heap.size w W→Calls Tryz.prog 35 #[.slice (some ⟨b,off,none⟩) N c] W fun e w'=>(∃g cz,e= .returned (.tuple #[.agg (ai {t with bG:=aY,aS:= []} (.slice (some ⟨g,0,none⟩) 1 cz)), .bool false]))∧Below W.heap.size W w'):=ae (fun W hb=>QR W t x N b off c h Qd hN (Nat.lt_of_lt_of_le hbl hb.size) hc1 hc2 fun j hj=>(hb.cell (p:=⟨b,off+j,none⟩) hbl).trans (hA j hj))
 have Em:=h.prev
 clear h hN hA
 go_enter Tryz.func20,Tryz.ntmps20
 go_upto_region 1 with ((with_reducible refine bP 37 ?_);go_must (refine aJ rfl _ rfl (ai bJ (.slice none 0 0)) fC ?_))
 go_wp2_with fail
 refine (HC.out _ HB0.out).mono ?_
 rintro e w2 ⟨⟨g,cz,rfl⟩,hb2⟩
 have HR2:=ae (HW0.out.below hb2)
 have HB2:=ae (ah HB0.out hb2)
 have eX:Hid ((Tryz.prog.info? 37).map (·.size)=some (ai {t with bG:=aY,aS:= []} (.slice (some ⟨g,0,none⟩) 1 cz)).size):=ae (bV {t with bG:=aY,aS:= []} _ Em rfl)
 have CE:Hid ((ai bJ (.slice none 0 0)).size=(ai {t with bG:=aY,aS:= []} (.slice (some ⟨g,0,none⟩) 1 cz)).size):=ae ((bn bJ _ rfl rfl).trans (bn {t with bG:=aY,aS:= []} _ Em rfl).symm)
 have hw2:w.heap.size<w2.heap.size:=HR2.out.lt
 have Ry:Hid ((Tryz.prog.info? 37).map (·.size)=some (ai bJ (.slice none 0 0)).size):=ae (bV bJ _ rfl rfl)
 clear hb2 HC HW0 HB0
 have HR3:Hid (AV w.heap.size 37 (ai bJ (.slice none 0 0)) ((w2.alloc (.cells (ai bJ (.slice none 0 0)) 37)).setRow w2.heap.size (ai {t with bG:=aY,aS:= []} (.slice (some ⟨g,0,none⟩) 1 cz)))):=ae ((HR2.out.below (ag w2 _)).tZ (by omega) _)
 have HB3:Hid (Below w.heap.size w ((w2.alloc (.cells (ai bJ (.slice none 0 0)) 37)).setRow w2.heap.size (ai {t with bG:=aY,aS:= []} (.slice (some ⟨g,0,none⟩) 1 cz)))):=ae (aF (ah HB2.out (ag w2 _)) (by omega) _)
 go_wp2_with (first
  |((with_reducible refine bP 37 ?_);go_must (refine aJ rfl _ rfl (ai bJ (.slice none 0 0)) fC ?_))
  |((with_reducible refine iw 37 ?_);go_must (refine bY rfl _ rfl (ai bJ (.slice none 0 0)) (by kernel_rfl) ?_))
  |((with_reducible refine gV 37 ?_);go_must (first
    |(refine wpList_store_row rfl _ _ _ rfl w2.heap.size (ai {t with bG:=aY,aS:= []} (.slice (some ⟨g,0,none⟩) 1 cz)) rfl rfl 37 (ai bJ (.slice none 0 0)) (heap_alloc_last _ _) eX.out CE.out (bf _ _ _ _) ?_)
    |(refine wpList_store_row rfl _ _ _ rfl w.heap.size (ai bJ (.slice none 0 0)) rfl rfl 37 (ai bJ (.slice none 0 0)) HR3.out.var Ry.out rfl (bf _ _ _ _) ?_))))
 refine bodyPost_ret (v:= .tuple #[.agg (ai bJ (.slice none 0 0)),I 3]) (bK rfl _ _ w.heap.size _ (ai bJ (.slice none 0 0)) (0,0) _ rfl (setRow_heap _ _ _ _ _ _ HR3.out.var) Tryz.underlying37 rfl Ry.out _ rfl) rfl ?_
 exact ⟨rfl,aF HB3.out (Nat.le_refl _) _⟩
end Go.Proofs.YtdibbemgpikgjaaGreatDoor
