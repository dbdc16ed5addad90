/- The texts TrN, TrL, TbY, TbY2, in this order. -/
import Derived.Test.YtdibbemgpikgjaaGreatDoorW00
import Derived.Lib.ByteType
import Derived.Test.YtdibbemgpikgjaaGreatDoorW01
import Derived.Test.YtdibbemgpikgjaaGreatDoorW02
import Derived.Test.YtdibbemgpikgjaaGreatDoorW15
set_option maxRecDepth 10000
set_option maxHeartbeats 8000000
namespace Go.Proofs.YtdibbemgpikgjaaGreatDoor
open Go Go.RowKit Go.Shelf
attribute [local go_sem] Oper.semAt_some
structure jY (w:World) (pb:Nat) (t:TypeId) (cs:Array Value) (W:World):Prop where
 os:W.os=w.os
 tape:W.tape=w.tape
 output:W.output=w.output
 size:w.heap.size≤W.heap.size
 block:∀k,k<w.heap.size→k≠pb→W.heap[k]? =w.heap[k]?
 tgt:W.heap[pb]? =some (.cells cs t (0,0))
 lt:pb<w.heap.size
theorem jY.grow {w W W':World} {pb:Nat} {t:TypeId} {cs:Array Value} (h:jY w pb t cs W) (hb:Below W.heap.size W W'):jY w pb t cs W':=
 ⟨hb.os.trans h.os,hb.tape.trans h.tape,hb.output.trans h.output,Nat.le_trans h.size hb.size,fun k hk hp=>(hb.block k (dQ hk h.size)).trans (h.block k hk hp),(hb.block pb (dQ h.lt h.size)).trans h.tgt,h.lt⟩
theorem jY.put {w W:World} {pb:Nat} {t:TypeId} {cs:Array Value} (h:jY w pb t cs W) (o:Nat) (v:Value):jY w pb t (cs.setIfInBounds o v) (W.setCell ⟨pb,o,none⟩ v):=
 ⟨h.os,h.tape,h.output,by simpa [World.setCell] using h.size,fun k hk hp=>(heap_setCell_other W _ k v hp).trans (h.block k hk hp),heap_setCell_same W pb o _ _ _ h.tgt,h.lt⟩
theorem jY.drew {w W:World} {pb:Nat} {t:TypeId} {cs:Array Value} (h:jY w pb t cs W):jY w pb t cs W.drew:=⟨h.os,h.tape,h.output,h.size,h.block,h.tgt,h.lt⟩
theorem jY.cell {w W:World} {pb:Nat} {t:TypeId} {cs:Array Value} (h:jY w pb t cs W) (i:Nat):W.cell? ⟨pb,i,none⟩=cs[i]? :=cell_of_row W pb i _ _ _ h.tgt
theorem jY.dV {w W:World} {pb:Nat} {t:TypeId} {cs:Array Value} (h:jY w pb t cs W) (i:Nat):W.frozen? ⟨pb,i,none⟩=false:=frozen_of_row W pb i _ _ h.tgt
theorem WG {β:Type} {w:World} {pb B:Nat} {t:TypeId} (f:β→Array Value) (hB:w.heap.size≤B):OwnFrom B (fun s W=>jY w pb t (f s) W):=
 fun s W W' row hs hg hr=>⟨hg.os.trans hs.os,hg.tape.trans hs.tape,hg.output.trans hs.output,Nat.le_trans hs.size hg.size,
  fun k hk hp=>(hg.block k (dQ hk hs.size) (fun e=>by have:=(hr k e.symm).1;omega)).trans (hs.block k hk hp),
  (hg.block pb (dQ hs.lt hs.size) (fun e=>by have:=(hr pb e.symm).1;have:=hs.lt;omega)).trans hs.tgt,hs.lt⟩
structure dU (w:World) (rb pb:Nat) (t:TypeId) (cs:Array Value) (w':World):Prop where
 os:w'.os=w.os
 tape:w'.tape=w.tape
 output:w'.output=w.output
 size:w.heap.size≤w'.heap.size
 block:∀k,k<w.heap.size→k≠pb→k≠rb→w'.heap[k]? =w.heap[k]?
 tgt:w'.heap[pb]? =some (.cells cs t (0,0))
theorem TQ {w w2 W:World} {M pb po B:Nat} {t:TypeId} {cs:Array Value} {pre:List (Nat×UInt8)} {xi:Nat} {xc:UInt8} {v u:Int} (Ey:M≤pb) (hpb:pb<w.heap.size) (hw2:w.heap.size<w2.heap.size)
  (hbx:Boxed W w.heap.size 109 (.pointer (some ⟨pb,po,none⟩))) (hB:jY w2 pb t (cs.setIfInBounds po (I (wP pre))) W) (hu:wP pre=u) (hv:v=zh u xc):
  KeepsFrom B W (W.setCell ⟨pb,po,none⟩ (I v)).drew∧BK M w2.heap.size W (W.setCell ⟨pb,po,none⟩ (I v)).drew∧Boxed (W.setCell ⟨pb,po,none⟩ (I v)).drew w.heap.size 109 (.pointer (some ⟨pb,po,none⟩))∧jY w2 pb t (cs.setIfInBounds po (I (wP (pre++ [(xi,xc)])))) (W.setCell ⟨pb,po,none⟩ (I v)).drew:=by
 have hk:KeepsOthers W (W.setCell ⟨pb,po,none⟩ (I v)):=KeepsOthers.setCell _ _ _;have hk2:KeepsOthers W (W.setCell ⟨pb,po,none⟩ (I v)).drew:=⟨hk.size,hk.same⟩;refine ⟨hk2.from _,⟨((Below.refl M W).setCell (p:=⟨pb,po,none⟩) Ey _).drew,?_⟩,?_,?_⟩
 ·exact World.cell?_of_block (a:=⟨w2.heap.size,0,none⟩) (heap_setCell_other W _ _ _ (by show w2.heap.size≠pb;omega))
 ·exact (heap_setCell_other W _ _ _ (by show w.heap.size≠pb;omega)).trans hbx
 ·have h:=hB.put po (I v);rw [Array.setIfInBounds_setIfInBounds] at h;rw [PX,hu,←hv];exact h.drew
def TNum (M:Nat) (w:World) (rb pb po:Nat) (t:TypeId) (cs:Array Value) (rest:List UInt8) (size:Nat) (e:Ending) (w':World):Prop:=
 e= .returned (.tuple #[])∧jW M w' rb (rest.drop size)∧dU w rb pb t (cs.setIfInBounds po (I (PG rest false size))) w'
theorem Gu (M:Nat) (w:World) (rb pb po size:Nat) (t:TypeId) (cs:Array Value) (rest:List UInt8) (hr:jW M w rb rest) (h8:size≤8) (hn:size≤rest.length) (hp:w.heap[pb]? =some (.cells cs t (0,0))) (hpo:po<cs.size) (Ey:M≤pb) (hne:pb≠rb):
  Calls Tryz.prog 176 #[pt rb, .pointer (some ⟨pb,po,none⟩),I size] w (TNum M w rb pb po t cs rest size):=by
 refine (callsIn_wide (n:=3)).1 ?_;have hro:Fence.wide.round=none:=rfl;have h1:1≤3:=by omega
 have hlt:=hr.lt;have hpl:pb<w.heap.size:=(bT.1 hp).1;have hMl:=hr.lo;have hc0:w.cell? ⟨pb,po,none⟩=some cs[po]:=by rw [cell_of_row w pb po _ _ _ hp];exact Array.getElem?_eq_getElem hpo
 have hf0:w.frozen? ⟨pb,po,none⟩=false:=frozen_of_row w pb po _ _ hp;obtain ⟨WS,hWS⟩:∃W,w.setCell ⟨pb,po,none⟩ (I 0)=W:=⟨_,rfl⟩;have hsS:WS.heap.size=w.heap.size:=by rw [←hWS];simp [World.setCell]
 have hTS:jY w pb t (cs.setIfInBounds po (I 0)) WS:=by
  rw [←hWS];exact ⟨rfl,rfl,rfl,by simp [World.setCell],fun k _ hk2=>heap_setCell_other _ _ k _ hk2,heap_setCell_same _ pb po _ _ _ hp,hpl⟩
 obtain ⟨W1,hW1⟩:∃W,WS.alloc (.cells #[.pointer (some ⟨pb,po,none⟩)] 109)=W:=⟨_,rfl⟩;have hs1:W1.heap.size=w.heap.size+1:=by rw [←hW1];simp [hsS]
 have hT1:jY w pb t (cs.setIfInBounds po (I 0)) W1:=by rw [←hW1];exact hTS.grow (ag WS _)
 have XX:Boxed W1 w.heap.size 109 (.pointer (some ⟨pb,po,none⟩)):=by
  rw [←hW1,←hsS];exact Boxed.new WS 109 (.pointer (some ⟨pb,po,none⟩))
 rw [←hWS] at hW1;have hr1:jW M W1 rb rest:=hr.of (hT1.block rb hlt (fun e=>hne e.symm)) fun k hk=>hT1.block k (by omega) (by omega);have HT0:=wM M W1 rb size rest hr1 hn;obtain ⟨bs,hbs⟩:∃bs,rest.take size=bs:=⟨_,rfl⟩;have hbl:bs.length=size:=by rw [←hbs,List.length_take];omega
 unfold GotT at HT0;rw [hbs] at HT0;have hrd:PG rest false size=wP (upto (bk bs) bs.length):=by
  have e1:tkB rest false size=false:=by unfold tkB;simp;omega
  unfold PG tk;rw [e1];simp only [Bool.false_eq_true,if_false,hbs]
 have HL:=ae hbl;have YI:=ae hrd;have HT:=ae HT0;have HT1:=ae hT1;have HBOX:=ae XX;have HW1:=ae hW1;have HP:=ae hp;clear hr hr1 HT0 hbs hbl hrd hT1 XX hW1 hWS hsS hTS hp;refine callsIn_of_wp_marks Tryz.func176 rfl trivial ?_ hro;simp only [Tryz.ntmps176,List.size_toArray,List.length_cons,List.length_nil,Nat.reduceAdd,Nat.reduceSub,Array.replicate_succ,Array.replicate_zero,List.push_toArray,List.append_toArray,List.nil_append,List.cons_append]
 gi_wp2_with first
  |(refine ⟨trivial,?_⟩;gi_at_call 179;rw [HW1.out];refine (callsIn_wide.2 HT.out).mono ?_;rintro e w2 ⟨bb,off,c,rfl,hcl,hcc,hbM,hby,hrs,hk⟩;have wX:=ae hby;have Qm:=ae hrs;have HK:=ae hk;clear hby hrs hk)
  |(refine ⟨trivial,?_⟩;gi_at_call 180;refine (Vj Fence.wide 2 trivial hro _ _ _ _).mono ?_;rintro e w' ⟨rfl,rfl⟩)
 have hsk:=HK.out.size;have hT2:jY w2 pb t (cs.setIfInBounds po (I 0)) w2:=⟨rfl,rfl,rfl,Nat.le_refl _,fun _ _ _=>rfl,(HK.out.block pb (by omega) hne).trans HT1.out.tgt,by omega⟩;have XY:Boxed w2 w.heap.size 109 (.pointer (some ⟨pb,po,none⟩)):=(HK.out.block w.heap.size (by omega) (by omega)).trans HBOX.out;have hB1:Below w.heap.size w2 (w2.alloc (.cells #[.slice (some ⟨bb,off,none⟩) size c] 32)):=((Below.refl _ w2).alloc (Nat.le_refl _) _).mono (by omega);have IC:BytesAt (w2.alloc (.cells #[.slice (some ⟨bb,off,none⟩) size c] 32)) M (some ⟨bb,off,none⟩) bs:= .inr ⟨bb,off,rfl,hbM,fun j hj=>(hB1.cell (p:=⟨bb,off+j,none⟩) (by show bb<w.heap.size;omega)).trans (wX.out j (by have:=HL.out;omega))⟩;have bN:=Boxed.new w2 32 (.slice (some ⟨bb,off,none⟩) size c);have hcl2:(w2.alloc (.cells #[.slice (some ⟨bb,off,none⟩) size c] 32)).cell? ⟨w2.heap.size,0,none⟩=some (.slice (some ⟨bb,off,none⟩) size c):=bN.cell;have hst:=KE Fence.wide (3 - 1) trivial hro (by omega) w2.heap.size M (some ⟨bb,off,none⟩) c bs (by have:=HL.out;omega) (w2.alloc (.cells #[.slice (some ⟨bb,off,none⟩) size c] 32)) (by simp) (by simp;omega) (by rw [HL.out];exact hcl2) IC;have hI0:jY w2 pb t (cs.setIfInBounds po (I 0)) (w2.alloc (.cells #[.slice (some ⟨bb,off,none⟩) size c] 32)):=hT2.grow (ag w2 _);refine wpIn_rangeFunc_ownG hro h1 (gf:=181) (lb:= #[.pointer (some ⟨w2.heap.size,0,none⟩)]) rfl trivial (enters_of Tryz.func181 (by kernel_rfl) rfl)
  hst (fun h k=>h.trans k) (Zk (by simp;omega) (by simp)) (Below.refl _ _) (fun _=>rfl)
  (fun pre W=>Boxed W w.heap.size 109 (.pointer (some ⟨pb,po,none⟩))∧jY w2 pb t (cs.setIfInBounds po (I (wP pre))) W)
  (fun _ _ _=>False)
  (OwnFrom.and (Own.from (boxed_own _ _ _) _) (WG _ (by simp)))
  (fun _ _ _ _ _ hs _ _=>hs)
  ⟨XY.alloc _,hI0⟩
  (fun x=> {tmps:= #[pt rb, .pointer (some ⟨pb,po,none⟩),I size,undef, .pointer (some ⟨w.heap.size,0,none⟩),undef,undef,Extern.Stop.cell x.2, .pointer (some ⟨pb,po,none⟩), .pointer (some ⟨pb,po,none⟩),pt rb,I size, .slice (some ⟨bb,off,none⟩) size c, .func (.func 181) #[] #[.pointer (some ⟨w2.heap.size,0,none⟩)], .int .i64 (x.1:Int),Extern.Stop.cell x.2,undef,undef,undef,undef,undef,undef,undef,undef,undef],defers:= []}) ?assign ?body ?done ?stop
 case assign=>
  intro l x W K hK
  gi_wp2
  exact hK
 case body=>
  rintro l pre ⟨xi,xc⟩ W ⟨hbx,hB⟩ _;have hc:=hbx.cell;have hx1:(xc.toNat:Int)<256:=by have:=xc.toNat_lt;omega
  have hx2:(0:Int)≤xc.toNat:=by omega
  simp only [Extern.Stop.cell];have hcp:W.cell? ⟨pb,po,none⟩=some (I (wP pre)):=(hB.cell po).trans (by simp [hpo]);have hfp:=hB.dV po;have HBX:=ae hbx;have HBB:=ae hB;have hwl:w.heap.size<w2.heap.size:=by omega
  obtain ⟨u,hu⟩:∃u,wP pre=u:=⟨_,rfl⟩;rw [hu] at hcp;have HU:=ae hu;have HV:Hid (bits BinOp.or IntKind.i64 (IntKind.i64.wrap (u*256)) xc.toNat=zh u xc):=ae (by unfold zh;rw [show IntKind.i64.wrap (u*256)=wrap64 (u*256) from by rw [IntKind.wrap_i64];unfold wrap64;omega]);have hxw:IntKind.i64.wrap (xc.toNat:Int)=(xc.toNat:Int):=by rw [IntKind.wrap_i64];omega
  clear hbx hB hT2 XY hB1 IC bN hcl2 hst hI0 hc0 hf0 hu wX Qm HT HT1 HBOX HW1 HP YI HL
  gi_wp2
  gi_region
  all_goals exact TQ Ey hpl hwl HBX.out HBB.out HU.out HV.out
 case done=>
  rintro D ys W hD rfl ⟨hbx,hB⟩ hK;have hc:=hbx.cell
  gi_wp2
  refine ⟨by simp, .inl ⟨_,_,rfl,run_takeDeferred hK,?_⟩⟩;refine ⟨.tuple #[],by simp [results,Tryz.results176],?_⟩;have hD2:w2.heap.size+1≤D:=by simpa using hD
  have hpo:∀k,k<w2.heap.size→(W.putObj D (.deferred none)).heap[k]? =W.heap[k]? :=fun k hk=>World.putObj_heap_other (by omega);refine ⟨rfl,Qm.out.of ((hpo rb (by omega)).trans (hB.block rb (by omega) (fun e=>hne e.symm))) (fun k hk=>(hpo k (by omega)).trans (hB.block k (by omega) (by omega))),?_⟩;rw [YI.out];have hT1:=HT1.out;refine ⟨hB.os.trans (HK.out.os.trans hT1.os),hB.tape.trans (HK.out.tape.trans hT1.tape),hB.output.trans (HK.out.output.trans hT1.output),?_,fun k hk h2 h3=>?_,?_⟩
  ·have h1:=hB.size;simp only [World.putObj,Array.size_setIfInBounds];omega
  ·exact (hpo k (by omega)).trans ((hB.block k (by omega) h2).trans ((HK.out.block k (by omega) h3).trans (hT1.block k hk h2)))
  ·refine (hpo pb (by omega)).trans ?_;exact hB.tgt
 case stop=>
  rintro D c pre W _ _ h _;exact h.elim
end Go.Proofs.YtdibbemgpikgjaaGreatDoor
namespace Go.Proofs.YtdibbemgpikgjaaGreatDoor
open Go Go.RowKit
theorem dU.trans {w w1 w2:World} {rb pb:Nat} {t:TypeId} {cs cs2:Array Value} (h:dU w rb pb t cs w1) (k:dU w1 rb pb t cs2 w2):dU w rb pb t cs2 w2:=
 ⟨k.os.trans h.os,k.tape.trans h.tape,k.output.trans h.output,Nat.le_trans h.size k.size,fun b hb h1 h2=>(k.block b (dQ hb h.size) h1 h2).trans (h.block b hb h1 h2),k.tgt⟩
theorem dU.refl {w:World} {rb pb:Nat} {t:TypeId} {cs:Array Value} (h:w.heap[pb]? =some (.cells cs t (0,0))):dU w rb pb t cs w:=⟨rfl,rfl,rfl,Nat.le_refl _,fun _ _ _ _=>rfl,h⟩
theorem dU.uw {w w1 w2:World} {rb pb:Nat} {t:TypeId} {cs:Array Value} (h:dU w rb pb t cs w1) (hk:l7 rb w1 w2) (hl:pb<w1.heap.size) (hne:pb≠rb):dU w rb pb t cs w2:=
 ⟨hk.os.trans h.os,hk.tape.trans h.tape,hk.output.trans h.output,Nat.le_trans h.size hk.size,fun b hb h1 h2=>(hk.block b (dQ hb h.size) h2).trans (h.block b hb h1 h2),(hk.block pb hl hne).trans h.tgt⟩
theorem dU.grow {w w1 w2:World} {rb pb:Nat} {t:TypeId} {cs:Array Value} (h:dU w rb pb t cs w1) (hb:Below w1.heap.size w1 w2) (hl:pb<w1.heap.size) (hne:pb≠rb):dU w rb pb t cs w2:=h.uw (l7.of_below hb) hl hne
theorem dU.put {w w1:World} {rb pb:Nat} {t:TypeId} {cs:Array Value} (h:dU w rb pb t cs w1) (o:Nat) (v:Value):dU w rb pb t (cs.setIfInBounds o v) (w1.setCell ⟨pb,o,none⟩ v):=
 ⟨h.os,h.tape,h.output,by simpa [World.setCell] using h.size,fun b hb h1 h2=>(heap_setCell_other w1 _ b v h1).trans (h.block b hb h1 h2),heap_setCell_same w1 pb o _ _ _ h.tgt⟩
theorem dU.drew {w w1:World} {rb pb:Nat} {t:TypeId} {cs:Array Value} (h:dU w rb pb t cs w1):dU w rb pb t cs w1.drew:=⟨h.os,h.tape,h.output,h.size,h.block,h.tgt⟩
theorem dU.ja {w w1:World} {rb pb:Nat} {t:TypeId} {cs:Array Value} (h:dU w.drew rb pb t cs w1):dU w rb pb t cs w1:=⟨h.os,h.tape,h.output,h.size,h.block,h.tgt⟩
theorem dU.cell {w w1:World} {rb pb:Nat} {t:TypeId} {cs:Array Value} (h:dU w rb pb t cs w1) (i:Nat):w1.cell? ⟨pb,i,none⟩=cs[i]? :=cell_of_row w1 pb i _ _ _ h.tgt
theorem dU.dV {w w1:World} {rb pb:Nat} {t:TypeId} {cs:Array Value} (h:dU w rb pb t cs w1) (i:Nat):w1.frozen? ⟨pb,i,none⟩=false:=frozen_of_row w1 pb i _ _ h.tgt
theorem jW.put {M pb o:Nat} {w:World} {rb:Nat} {rest:List UInt8} (h:jW M w rb rest) (hp:M≤pb) (hne:pb≠rb) (v:Value):jW M (w.setCell ⟨pb,o,none⟩ v) rb rest:=
 h.of (heap_setCell_other w _ rb v (fun e=>hne e.symm)) fun k hk=>heap_setCell_other w _ k v (by show k≠pb;omega)
def QW (M:Nat) (w:World) (rb pb po:Nat) (t:TypeId) (cs:Array Value) (n:Int) (R:List UInt8) (e:Ending) (w':World):Prop:=
 e= .returned (.tuple #[])∧jW M w' rb R∧dU w rb pb t (cs.setIfInBounds po (I n)) w'
theorem iM (M:Nat) (w:World) (rb pb po size:Nat) (t:TypeId) (cs:Array Value) (n v:Int) (R:List UInt8) (hr:jW M w rb (le n size++R)) (h8:size≤8) (hv:PG (le n size++R) false size=v) (hp:w.heap[pb]? =some (.cells cs t (0,0))) (hpo:po<cs.size) (Ey:M≤pb) (hne:pb≠rb):
  Calls Tryz.prog 176 #[pt rb, .pointer (some ⟨pb,po,none⟩),I size] w (QW M w rb pb po t cs v R):=
 (Gu M w rb pb po size t cs _ hr h8 (by rw [aZ,aC];omega) hp hpo Ey hne).mono fun e w' ⟨h1,h2,h3⟩=>by
  rw [NU] at h2;rw [hv] at h3;exact ⟨h1,h2,h3⟩
theorem hvs2 (x:Int):wrap64 (hvs 0 (upto (bk (le x 2)) 2))=x%65536:=by
 have e:hvs 0 (upto (bk (le x 2)) 2)=((0*256+((byteOf (x / 256)).toNat:Int))*256+((byteOf x).toNat:Int)):=rfl;rw [e];simp only [rF];unfold wrap64;omega
theorem X6 (x:Int) (R:List UInt8):PG (le x 2++R) false 2=x%65536:=by
 unfold PG wP;rw [(Gs x 2 R).1,aC,NZ _ 0 0 (by unfold wrap64;omega)];exact hvs2 x
def TLenR (M:Nat) (w:World) (rb:Nat) (n:Int) (R:List UInt8) (e:Ending) (w':World):Prop:=e= .returned (I n)∧jW M w' rb R∧l7 rb w w'
theorem jJ (M:Nat) (w:World) (rb size:Nat) (m n v:Int) (R:List UInt8) (hr:jW M w rb (le n size++R)) (h8:size≤8) (hv:PG (le n size++R) false size=v):
  Calls Tryz.prog 175 #[pt rb,I m,I size] w (TLenR M w rb v R):=by
 have hl:=hr.lt;have hlo:=hr.lo;have hb:=ag w (.cells #[I 0] 3);have hpl:=heap_alloc_last w (.cells #[I 0] 3);have HC:=ae (iM M (w.alloc (.cells #[I 0] 3)) rb w.heap.size 0 size 3 #[I 0] n v R (hr.below hb hl) h8 hv hpl (by decide) (by omega) (by omega));have HB:=ae hb;clear hr hb hpl hv;go_enter Tryz.func175,Tryz.ntmps175;go_wp2_with fail;refine HC.out.mono ?_;rintro e w1 ⟨rfl,hr1,hp1⟩;have hc1:w1.cell? ⟨w.heap.size,0,none⟩=some (I v):=hp1.cell 0;have HR1:=ae hr1;have iH:Hid (l7 rb w w1):=ae ⟨hp1.os,hp1.tape,hp1.output,by have:=hp1.size;simp at this;omega,fun k hk hkr=>(hp1.block k (by simp;omega) (by omega) hkr).trans (HB.out.block k hk)⟩;clear hr1 hp1 HC;go_wp2_with fail;go_ret;exact ⟨rfl,HR1.out,iH.out⟩
theorem P9 (n:Int):IntKind.i16.wrap n=(n+32768)%65536 - 32768:=by
 simp [IntKind.wrap,IntKind.bits,IntKind.signed];omega
theorem zt (M:Nat) (w:World) (rb pb po:Nat) (t:TypeId) (cs:Array Value) (n:Int) (R:List UInt8) (hr:jW M w rb (le n 2++R)) (hn0: -32768≤n) (hn1:n≤32767) (hp:w.heap[pb]? =some (.cells cs t (0,0))) (hpo:po<cs.size) (Ey:M≤pb) (hne:pb≠rb):
  Calls Tryz.prog 177 #[pt rb, .pointer (some ⟨pb,po,none⟩)] w (QW M w rb pb po t cs n R):=by
 obtain ⟨u,hu⟩:∃u,n%65536=u:=⟨_,rfl⟩;have HC:=ae (iM M w rb pb po 2 t cs n u R hr (by omega) ((X6 n R).trans hu) hp hpo Ey hne);have hu0:0≤u:=by omega
 have hu1:u<65536:=by omega
 have hw16:IntKind.i16.wrap u=n:=by
  rw [P9];omega
 clear hr hp;go_enter Tryz.func177,Tryz.ntmps177;go_wp2_with fail;refine HC.out.mono ?_;rintro e w1 ⟨rfl,hr1,hp1⟩;have hc1:w1.cell? ⟨pb,po,none⟩=some (I u):=(hp1.cell po).trans (by simp [hpo]);have hf1:=hp1.dV po;have HR1:=ae (hr1.put (o:=po) Ey hne (I n));have wZ:=ae (hp1.put po (I n));clear hr1 hp1 HC hu;go_wp2_with fail
 go_end0
 exact ⟨rfl,HR1.out,by have h:=wZ.out;rwa [Array.setIfInBounds_setIfInBounds] at h⟩
theorem Wn {w:World} {b o:Nat} {xs:List UInt8} (h:∀j,j<32→w.cell? ⟨b,o+j,none⟩=some (Extern.Stop.cell (xs[j]?.getD 0))) (hl:(aj xs).length=32):∀j u,(aj xs)[j]? =some u→w.cell? ((⟨b,o,none⟩:Addr).add j)=some u:=fun j u hu=>by
 have hj:=(gu.1 hu).1;rw [Addr.add_mid,h j (by omega)];unfold aj at hu hl hj;rw [List.length_map] at hl hj;rw [List.getElem?_map,dw (by omega)] at hu;rw [dw (by omega)];simpa using hu
def TTxtR (M:Nat) (w:World) (rb pb po:Nat) (t:TypeId) (cs:Array Value) (v:Value) (R:List UInt8) (e:Ending) (w':World):Prop:=
 e= .returned (.tuple #[])∧jW M w' rb R∧dU w rb pb t (cs.setIfInBounds po v) w'
theorem EN (M:Nat) (w:World) (rb pb po:Nat) (t:TypeId) (cs:Array Value) (s0 s:ByteArray) (R:List UInt8) (hr:jW M w rb ((le s.size 1++s.data.toList)++R)) (hs:s.size<256) (hp:w.heap[pb]? =some (.cells cs t (0,0))) (hpo:cs[po]? =some (.string s0)) (Ey:M≤pb) (hne:pb≠rb):
  Calls Tryz.prog 178 #[pt rb, .pointer (some ⟨pb,po,none⟩)] w (TTxtR M w rb pb po t cs (.string s) R):=by
 rw [List.append_assoc] at hr;have hpl:pb<w.heap.size:=(bT.1 hp).1;have HC:=ae (jJ M w rb 1 0 s.size s.size (s.data.toList++R) hr (by omega) (qh _ (by omega) (by omega) _));have HP:=ae hp;have HPO:=ae hpo;have HL:=ae (show s.data.toList.length=s.size from Array.length_toList);clear hr hp hpo;go_enter Tryz.func178,Tryz.ntmps178;go_wp2_with fail;refine HC.out.mono ?_;rintro e w1 ⟨rfl,hr1,hk1⟩;have HR1:=ae hr1;have iH:=ae hk1;have hs1:=hk1.size;clear hr1 hk1 HC;go_wp2_with fail;refine (wM M w1 rb s.size (s.data.toList++R) HR1.out (by rw [aZ,HL.out];omega)).mono ?_;rintro e w2 ⟨bb,off,c,rfl,hc1,hc2,hbM,hby,hr2,hk2⟩;have e1:(s.data.toList++R).take s.size=s.data.toList:=by rw [←HL.out,List.take_append_of_le_length (Nat.le_refl _),List.take_of_length_le (Nat.le_refl _)]
 have e2:(s.data.toList++R).drop s.size=R:=by rw [←HL.out,List.drop_append_of_le_length (Nat.le_refl _),List.drop_of_length_le (Nat.le_refl _)];rfl
 rw [e1] at hby;rw [e2] at hr2;have hcv:=IY w2 bb off c s hby;have hp2:w2.heap[pb]? =some (.cells cs t (0,0)):=(hk2.block pb (by omega) hne).trans ((iH.out.block pb hpl hne).trans HP.out);have hcp:w2.cell? ⟨pb,po,none⟩=some (.string s0):=(cell_of_row w2 pb po _ _ _ hp2).trans HPO.out;have hfp:=frozen_of_row w2 pb po _ _ hp2;have HR2:=ae (hr2.put (o:=po) Ey hne (.string s));have HP2:Hid (dU w rb pb t (cs.setIfInBounds po (.string s)) (w2.setCell ⟨pb,po,none⟩ (.string s))):=ae ((((dU.refl HP.out).uw iH.out hpl hne).uw hk2 (by omega) hne).put po (.string s));clear hby hr2 hk2 e1 e2 hp2;go_wp2_with fail
 go_end0
 exact ⟨rfl,HR2.out,HP2.out⟩
def putRow (cs:Array Value) (o:Nat) (vs:List Value):Array Value:=(splice cs.toList o vs).toArray
theorem zq (M:Nat) (w:World) (rb pb po:Nat) (t:TypeId) (cs:Array Value) (xs R:List UInt8) (hr:jW M w rb (xs++R)) (h32:xs.length=32) (hp:w.heap[pb]? =some (.cells cs t (0,0))) (hpo:po+32≤cs.size) (Ey:M≤pb) (hne:pb≠rb):
  Calls Tryz.prog 173 #[pt rb, .pointer (some ⟨pb,po,none⟩)] w fun e w'=>e= .returned (.tuple #[])∧jW M w' rb R∧dU w rb pb t (putRow cs po (aj xs)) w':=by
 have hpl:pb<w.heap.size:=(bT.1 hp).1;have HC:=ae (wM M w.drew rb 32 (xs++R) hr.drew (by rw [aZ,h32];omega));have HP:=ae hp;have HX:Hid ((aj xs).length=32):=ae (by simp [aj,h32]);have HE:Hid ((xs++R).take 32=xs∧(xs++R).drop 32=R):=ae ⟨by rw [←h32,List.take_append_of_le_length (Nat.le_refl _),List.take_of_length_le (Nat.le_refl _)],by rw [←h32,List.drop_append_of_le_length (Nat.le_refl _),List.drop_of_length_le (Nat.le_refl _)];rfl⟩;clear hr hp h32;go_enter Tryz.func173,Tryz.ntmps173;go_wp2_with fail
 go_region_law (first|(go_simp;go_at_call 179;refine HC.out.mono ?_;rintro e w5 ⟨b5,o5,c5,rfl,hl5,hm5,hbM,hb5,uO,hk5⟩;rw [HE.out.1] at hb5;rw [HE.out.2] at uO;have mZ:=ae uO;have xP:=ae hk5;have oO:Hid (∀j u,(aj xs)[j]? =some u→w5.cell? ((⟨b5,o5,none⟩:Addr).add j)=some u):=ae (Wn hb5 HX.out);have Ql:Hid (w5.heap[pb]? =some (.cells cs t (0,0))):=ae ((hk5.block pb hpl hne).trans HP.out);clear hb5 uO hk5)|(refine vS (by rfl) _ _ _ _ (by rfl) 5 Tryz.underlying32 (by kernel_rfl) pb po 32 32 ⟨b5,o5,none⟩ 32 c5 (by rfl) (by rfl) cs t Ql.out (aj xs) (by rw [HX.out];rfl) oO.out (by rw [HX.out];exact hpo) (IZ xs) (putRow cs po (aj xs)) rfl ?_))
 all_goals
  have H6:Hid (jW M (w5.setRow pb (putRow cs po (aj xs))) rb R):=ae (mZ.out.of (setRow_other _ _ _ _ (fun e=>hne e.symm)) fun k hk=>setRow_other _ _ _ _ (by omega));have H7:Hid (dU w rb pb t (putRow cs po (aj xs)) (w5.setRow pb (putRow cs po (aj xs)))):=ae ⟨xP.out.os,xP.out.tape,xP.out.output,by simpa [World.setRow] using xP.out.size,fun k hk h1 h2=>(setRow_other _ _ k _ h1).trans (xP.out.block k hk h2),setRow_heap _ _ _ _ _ _ Ql.out⟩;go_wp2_with fail
  go_end0
  exact ⟨rfl,H6.out,H7.out⟩
attribute [local go_sem] mD mM mF mO qP qR mg mG mr mJ
theorem eY.drew {w:World} {g:Nat} {v:Value} {bs:List UInt8} (h:eY w g v bs):eY w.drew g v bs:=⟨h.1,h.2.drew⟩
theorem aI {g:Nat} {v v':Value} {w w':World} (h:gX g v w.drew v' w'):gX g v w v' w':=⟨h.os,h.tape,h.output,h.size,h.block,h.own⟩
theorem bf {w w':World} {g:Nat} {v v':Value} {bs:List UInt8} (h:eY w g v bs) (hk:gX g v w v' w'):Below g w w':=
 ⟨hk.os,hk.tape,hk.output,hk.size,fun k hb=>hk.block k (by have:=h.lt;omega) (by omega) (eQ h.2 k (by omega))⟩
theorem MS (w:World) (g:Nat) (p:Addr) (v:Value) (bs:List UInt8) (n:Int) (hf:fits n) (hl:bs.length≤1000000000) (hst:eY w g v bs) (hp:w.cell? p=some (I n)):
  Calls Tryz.prog 91 #[.iface 77 (pt g), .pointer (some p)] w (fD w g v (bs++le n 1)):=by
 have HC:=ae (bG w g p v bs n 1 hf.1 hf.2 (by omega) (by omega) hst.lt hst hp);clear hst hp;go_enter Tryz.func91,Tryz.ntmps91;go_wp2_with fail;refine HC.out.mono ?_;rintro e w1 ⟨rfl,h⟩;have H:=ae h;clear h HC;go_wp2_with fail
 go_end0
 exact ⟨rfl,H.out⟩
def WlRel (w:World) (g:Nat) (v:Value) (bs:List UInt8) (n:Nat) (zs:List Int) (i:Value) (wr:World):Prop:=
 ∃k:Nat,k≤n∧i= .int .i64 k∧∃v',eY wr g v' (bs++(le n 1++dA (zs.take k)))∧gX g v w v' wr
theorem xJ (w:World) (g lb lo:Nat) (A:Option Addr) (n c:Nat) (zs:List Int) (v:Value) (bs:List UInt8) (hn:zs.length=n) (hn2:n≤100000) (hp:w.cell? ⟨lb,lo,none⟩=some (.slice A n c)) (Ld:lb<g) (hA:fG w g A zs) (hfit:∀z∈zs,fits z)
  (hl:bs.length≤100000000) (hst:eY w g v bs):
  Calls Tryz.prog 90 #[.iface 77 (pt g), .pointer (some ⟨lb,lo,none⟩),I 1, .func (.func 91) #[] #[]] w (fD w g v (bs++(le n 1++dA zs))):=by
 have HC:=ae (fO w.drew g v bs n 1 (by omega) (by omega) (by omega) (by omega) hst.drew);have HST:=ae hst;have HN:=ae hn;have HF:=ae hfit;have HA:=ae hA;have HP:=ae hp;have hgl:=hst.lt;clear hst hn hfit hA;go_enter Tryz.func90,Tryz.ntmps90;go_wp2_with fail;go_still_tail 9,(by kernel_rfl);go_wp2_with fail;refine HC.out.mono ?_;rintro e w1 ⟨rfl,v1,hs1,hk1⟩;have iP:=ae hs1;have iH:=ae (aI hk1);clear hs1 hk1 HC hp;go_wp2_with fail
 go_loopw [22] (fun i wr=>WlRel w g v bs n zs i wr) (fun i _=>n - (intOf i).toNat)
 case atStart=>exact ⟨0,Nat.zero_le _,rfl,v1,by simpa [dA] using iP.out,iH.out⟩
 case round=>
  obtain ⟨k,hk,rfl,v2,hs2,hk2⟩:=hrel;have hb2:=bf HST.out hk2;have HB2:=ae hb2;have HS2:=ae hs2;have iR:=ae hk2;have hp2:wr.cell? ⟨lb,lo,none⟩=some (.slice A n c):=(hb2.cell (p:=⟨lb,lo,none⟩) Ld).trans HP.out;clear hs2 hk2 hb2 iP iH;by_cases hlt:k<n
  ·have hkz:k<zs.length:=by rw [HN.out];exact hlt
   obtain ⟨b,off,rfl,hbg,hc0⟩:∃b off,A=some ⟨b,off,none⟩∧b<g∧∀j,j<zs.length→w.cell? ⟨b,off+j,none⟩=some (I (zs[j]?.getD 0)):=by
    rcases HA.out with h|h
    ·omega
    ·exact h
   obtain ⟨z,hz⟩:∃z,zs[k]? =some z:=⟨_,dw hkz⟩;have hcz:wr.cell? ⟨b,off+k,none⟩=some (I z):=(HB2.out.cell (p:=⟨b,off+k,none⟩) hbg).trans (by rw [hc0 k hkz,hz];rfl);have hlen:(bs++(le (n:Int) 1++dA (zs.take k))).length≤1000000000:=by
    rw [aZ,aZ,aC,iI,List.length_take];omega
   have HM:=ae (MS wr g ⟨b,off+k,none⟩ v2 _ z (HF.out z (fZ hz)) hlen HS2.out hcz);have HZ:=ae hz;have i0:(0:Int)≤(k:Int):=by omega
   have i1:(k:Int)<(n:Int):=by omega
   have i2:((k:Int)==(n:Int))=false:=by simp;omega
   clear hkz hc0 hz hlen hcz;go_wp2_with fail;refine HM.out.mono ?_;rintro e w3 ⟨rfl,v3,hs3,hk3⟩;have jV:=ae hs3;have mQ:=ae (iR.out.trans hk3);clear hs3 hk3 hp2;go_wp2_with fail;go_roundw
   case rel=>exact ⟨k+1,by omega,by go_num,v3,by rw [lC zs k z HZ.out,Bz,←List.append_assoc (le _ _),←List.append_assoc];exact jV.out,mQ.out⟩
   case measure=>simp [intOf];omega
  ·have hkn:k=n:=by omega
   have tJ:=ae hkn;clear hkn;go_wp2_with fail
   go_end0
   exact ⟨rfl,v2,by have h:=HS2.out;rwa [tJ.out,List.take_of_length_le (by rw [HN.out];exact Nat.le_refl _)] at h,iR.out⟩
theorem CS (w:World) (g lb lo:Nat) (A:Option Addr) (c:Nat) (v:Value) (bs:List UInt8) (hp:w.cell? ⟨lb,lo,none⟩=some (.slice A 0 c)) (hl:bs.length≤100000000) (hst:eY w g v bs):
  Calls Tryz.prog 92 #[.iface 77 (pt g), .pointer (some ⟨lb,lo,none⟩),I 1, .func (.func 93) #[] #[]] w (fD w g v (bs++le 0 1)):=by
 have HC:=ae (fO w.drew g v bs 0 1 (by omega) (by omega) (by omega) (by omega) hst.drew);clear hst;go_enter Tryz.func92,Tryz.ntmps92;go_wp2_with fail;go_still_tail 9,(by kernel_rfl);go_wp2_with fail;refine HC.out.mono ?_;rintro e w1 ⟨rfl,v1,hs1,hk1⟩;have iP:=ae hs1;have iH:=ae (aI hk1);clear hs1 hk1 HC hp;go_wp2_with fail
 go_loop [22] (fun i=>i= .int .i64 0) (fun _=>0)
 case atStart=>rfl
 case round=>
  subst hrel;go_wp2_with fail
  go_end0
  exact ⟨rfl,v1,iP.out,iH.out⟩
theorem zS (w:World) (g lb lo:Nat) (A:Option Addr) (c:Nat) (v:Value) (bs:List UInt8) (hp:w.cell? ⟨lb,lo,none⟩=some (.slice A 0 c)) (hl:bs.length≤100000000) (hst:eY w g v bs):
  Calls Tryz.prog 69 #[.iface 77 (pt g), .pointer (some ⟨lb,lo,none⟩),I 2, .func (.func 70) #[] #[]] w (fD w g v (bs++le 0 2)):=by
 have HC:=ae (fO w.drew g v bs 0 2 (by omega) (by omega) (by omega) (by omega) hst.drew);clear hst;go_enter Tryz.func69,Tryz.ntmps69;go_wp2_with fail;go_still_tail 9,(by kernel_rfl);go_wp2_with fail;refine HC.out.mono ?_;rintro e w1 ⟨rfl,v1,hs1,hk1⟩;have iP:=ae hs1;have iH:=ae (aI hk1);clear hs1 hk1 HC hp;go_wp2_with fail
 go_loop [22] (fun i=>i= .int .i64 0) (fun _=>0)
 case atStart=>rfl
 case round=>
  subst hrel;go_wp2_with fail
  go_end0
  exact ⟨rfl,v1,iP.out,iH.out⟩
theorem CW (w:World) (g lb lo:Nat) (A:Option Addr) (c:Nat) (v:Value) (bs:List UInt8) (hp:w.cell? ⟨lb,lo,none⟩=some (.slice A 0 c)) (hl:bs.length≤100000000) (hst:eY w g v bs):
  Calls Tryz.prog 71 #[.iface 77 (pt g), .pointer (some ⟨lb,lo,none⟩),I 1, .func (.func 72) #[] #[]] w (fD w g v (bs++le 0 1)):=by
 have HC:=ae (fO w.drew g v bs 0 1 (by omega) (by omega) (by omega) (by omega) hst.drew);clear hst;go_enter Tryz.func71,Tryz.ntmps71;go_wp2_with fail;go_still_tail 9,(by kernel_rfl);go_wp2_with fail;refine HC.out.mono ?_;rintro e w1 ⟨rfl,v1,hs1,hk1⟩;have iP:=ae hs1;have iH:=ae (aI hk1);clear hs1 hk1 HC hp;go_wp2_with fail
 go_loop [22] (fun i=>i= .int .i64 0) (fun _=>0)
 case atStart=>rfl
 case round=>
  subst hrel;go_wp2_with fail
  go_end0
  exact ⟨rfl,v1,iP.out,iH.out⟩
end Go.Proofs.YtdibbemgpikgjaaGreatDoor
namespace Go.Proofs.YtdibbemgpikgjaaGreatDoor
open Go Go.RowKit
attribute [local go_sem] mD mM mF mO qP qR mg mG mr mJ
def je (c:Cal):List UInt8:=le c.aY 4++((le c.az.length 1++dA c.az)++(le 0 1++le 0 1))
theorem sD (c:Cal):(je c).length=7+c.az.length:=by simp [je,aC,iI];omega
theorem CP (w:World) (g cb co:Nat) (c:Cal) (A:Option Addr) (a:Nat) (B:Option Addr) (b:Nat) (v:Value) (bs:List UInt8) (hc:zW c) (hr:w.rangeAt cb co (aF c A a B b).toList) (hfz:w.frozen? ⟨cb,co+2,none⟩=false) (hcb:cb<g) (hA:fG w g A c.az)
  (hl:bs.length≤10000000) (hst:eY w g v bs):
  Calls Tryz.prog 68 #[.iface 77 (pt g), .pointer (some ⟨cb,co,none⟩)] w (fD w g v (bs++je c)):=by
 have hgl:=hst.lt;have c0:w.cell? ⟨cb,co,none⟩=some (I c.aY):=hr 0 _ rfl;have c1:w.cell? ⟨cb,co+1,none⟩=some (.slice A c.az.length a):=hr 1 _ rfl;have c2:w.cell? ⟨cb,co+2,none⟩=some (I (-1)):=(hr 2 _ rfl).trans (by rw [hc.le]);have c3:w.cell? ⟨cb,co+3,none⟩=some (.slice B 0 b):=(hr 3 _ rfl).trans (by rw [hc.ru];rfl);obtain ⟨n,hn⟩:∃n,c.az.length=n:=⟨_,rfl⟩;rw [hn] at c1;have hn2:n≤16:=by have:=hc.mo.2;omega
 have hN1:(bs++le c.aY 4).length≤10000004:=by rw [aZ,aC];omega
 have HE:=ae hc.ep;have HN:=ae hn;have HM:Hid (∀z∈c.az,fits z):=ae fun z hz=>by have:=hc.all z hz;unfold fits;omega
 have lY:=ae (bG w.drew g ⟨cb,co,none⟩ v bs c.aY 4 (by have:=hc.ep;omega) (by have:=hc.ep;omega) (by omega) (by omega) hst.lt hst.drew c0);have HST:=ae hst;have HA:=ae hA;clear hc hr hst hA hn;go_enter Tryz.func68,Tryz.ntmps68;go_wp2_with fail;go_still_tail 7,(by kernel_rfl);go_wp2_with fail;refine lY.out.mono ?_;rintro e w1 ⟨rfl,v1,hs1,hk1⟩;have hb1:=bf HST.out (aI hk1);have HB1:=ae hb1;have iP:=ae hs1;have iH:=ae (aI hk1);have d1:w1.cell? ⟨cb,co+1,none⟩=some (.slice A n a):=(hb1.cell (p:=⟨cb,co+1,none⟩) hcb).trans c1;have hcb1:cb<w1.heap.size:=by have:=hs1.lt;omega
 have HL:=ae (xJ w1 g cb (co+1) A n a c.az v1 _ HN.out (by omega) d1 hcb (HA.out.keep hb1) HM.out (by omega) hs1);have UD:(bs++le c.aY 4++(le (n:Int) 1++dA c.az)).length≤10000040:=by
  simp only [aZ,aC,iI,HN.out];omega
 clear hs1 hk1 hb1 lY c0 d1;go_wp2_with fail;refine HL.out.mono ?_;rintro e w2 ⟨rfl,v2,hs2,hk2⟩;have hb2:=HB1.out.trans (bf iP.out hk2);have HB2:=ae hb2;have HS2:=ae hs2;have iR:=ae (iH.out.trans hk2);have d2:w2.cell? ⟨cb,co+2,none⟩=some (I (-1)):=(hb2.cell (p:=⟨cb,co+2,none⟩) hcb).trans c2;obtain ⟨h1,h2⟩:=hs2.grow (ag w2 (.cells #[I 0] 3));have G8:=ae h1;have HG2:=ae h2;have Nv:=ae hs2.new_ne;have yS:=ae (heap_alloc_last w2 (.cells #[I 0] 3));have HC2:=ae (bG (w2.alloc (.cells #[I 0] 3)) g ⟨w2.heap.size,0,none⟩ v2 _ 0 1 (by omega) (by omega) (by omega) (by omega) h1.lt h1 ((Row.new w2 #[I 0] 3).2 0));clear hs2 hk2 hb2 HL h1 h2;go_wp2_with fail;refine HC2.out.mono ?_;rintro e w3 ⟨rfl,v3,hs3,hk3⟩;have hb3:=bf G8.out hk3;have d3:w3.cell? ⟨w2.heap.size,0,none⟩=some (I 0):=cell_of_row w3 _ 0 _ _ _ ((G8.out.far hk3 w2.heap.size (by simp) Nv.out.1 Nv.out.2).trans yS.out);have zI:Below g w w3:=(HB2.out.trans ((ag w2 (.cells #[I 0] 3)).mono (by have:=HS2.out.lt;omega))).trans hb3;have HB3:=ae zI;have e3:w3.cell? ⟨cb,co+2,none⟩=some (I (-1)):=(zI.cell (p:=⟨cb,co+2,none⟩) hcb).trans c2;have f3:w3.frozen? ⟨cb,co+2,none⟩=false:=(zI.frozen (p:=⟨cb,co+2,none⟩) hcb).trans hfz;have e4:w3.cell? ⟨cb,co+3,none⟩=some (.slice B 0 b):=(zI.cell (p:=⟨cb,co+3,none⟩) hcb).trans c3;have hsame:=jc e3;have jV:=ae hs3;have mQ:=ae ((iR.out.trans HG2.out).trans hk3);have hN3:(bs++le c.aY 4++(le (n:Int) 1++dA c.az)++le 0 1).length≤10000041:=by rw [aZ];simp only [aC];omega
 have HLL:=ae (CS w3 g cb (co+3) B b v3 _ e4 (by omega) hs3);clear hs3 hk3 hb3 zI HC2 d2 yS;go_wp2_with fail;refine HLL.out.mono ?_;rintro e w4 ⟨rfl,v4,hs4,hk4⟩;have Ac:=ae hs4;have Nu:=ae (mQ.out.trans hk4);clear hs4 hk4 HLL hsame d3 e3 f3 e4;go_wp2_with fail
 go_end0
 exact ⟨rfl,v4,by unfold je;rw [HN.out];have h:=Ac.out;simpa [List.append_assoc] using h,Nu.out⟩
def oK (e:Ze):List UInt8:=(le e.name.size 1++e.name.data.toList)++(je e.z.cal++(le e.z.start 2++(le 0 2++(le e.z.hor 8++le 0 1))))
theorem Dh (e:Ze) (h:gU e.z) (hs:e.name.size≤32):(oK e).length≤69:=by
 have h1:=sD e.z.cal;have h2:=h.cal.mo.2;have h3:e.name.data.toList.length=e.name.size:=by rw [Array.length_toList];rfl
 simp only [oK,aZ,aC,h1,h3];omega
theorem Jp (w:World) (g eb eo:Nat) (x:dD) (v:Value) (bs:List UInt8) (h:gU x.e.z) (hs:x.e.name.size≤32) (hr:w.rangeAt eb eo x.cells.toList) (hfz:w.frozen? ⟨eb,eo+1+2,none⟩=false) (heb:eb<g) (hA:fG w g x.s.A x.e.z.cal.az)
  (hl:bs.length≤9000000) (hst:eY w g v bs):
  Calls Tryz.prog 49 #[.iface 77 (pt g), .pointer (some ⟨eb,eo,none⟩)] w (fD w g v (bs++oK x.e)):=by
 have hgl:=hst.lt;have c0:w.cell? ⟨eb,eo,none⟩=some (.string x.e.name):=hr 0 _ rfl;have vW:Hid (w.rangeAt eb (eo+1) (aF x.e.z.cal x.s.A x.s.a x.s.B x.s.b).toList):=ae fun j u hu=>by
  have hj:j<4:=(gu.1 hu).1;rw [show eo+1+j=eo+(j+1) by omega];refine hr (j+1) u ?_
  match j,hj with
  |0,_=>exact hu
  |1,_=>exact hu
  |2,_=>exact hu
  |3,_=>exact hu
 have c5:w.cell? ⟨eb,eo+1+4,none⟩=some (I x.e.z.start):=hr 5 _ rfl;have c6:w.cell? ⟨eb,eo+1+5,none⟩=some (.slice x.s.C 0 x.s.c):=(hr 6 _ rfl).trans (by rw [h.trans];rfl);have c7:w.cell? ⟨eb,eo+1+6,none⟩=some (I x.e.z.hor):=hr 7 _ rfl;have c8:w.cell? ⟨eb,eo+1+7,none⟩=some (.slice x.s.D 0 x.s.d):=(hr 8 _ rfl).trans (by rw [h.aK];rfl);have hnl:x.e.name.data.toList.length=x.e.name.size:=by rw [Array.length_toList];rfl
 have hcl:=sD x.e.z.cal;have hml:=h.cal.mo.2;have lY:=ae (EO w.drew g ⟨eb,eo,none⟩ v bs x.e.name (by omega) (by omega) hst.drew c0 (by show eb≠g;omega) (eQ hst.2 eb (by omega)) (by show eb<w.heap.size;omega));have HST:=ae hst;have HF:=ae h;have HA:=ae hA;have zY:Hid (∀j u,Below g w u→u.cell? ⟨eb,j,none⟩=w.cell? ⟨eb,j,none⟩):=ae fun j u hb=>hb.cell (p:=⟨eb,j,none⟩) heb;have HL:Hid (x.e.name.data.toList.length=x.e.name.size∧(je x.e.z.cal).length=7+x.e.z.cal.az.length∧x.e.z.cal.az.length≤16∧x.e.name.size≤32∧bs.length≤9000000):=ae ⟨hnl,hcl,hml,hs,hl⟩;clear h hr hst hA hnl hcl hml hs hl;go_enter Tryz.func49,Tryz.ntmps49;go_wp2_with fail;go_still_tail 7,(by kernel_rfl);go_wp2_with fail;refine lY.out.mono ?_;rintro e w1 ⟨rfl,v1,hs1,hk1⟩;obtain ⟨B1,hB1⟩:∃B,bs++(le x.e.name.size 1++x.e.name.data.toList)=B:=⟨_,rfl⟩;have hl1:B1.length≤9000040:=by rw [←hB1];have:=HL.out;simp only [aZ,aC];omega
 rw [hB1] at hs1;have hb1:=bf HST.out (aI hk1);have HB1:=ae hb1;have iP:=ae hs1;have iH:=ae (aI hk1);have qB:=ae hB1;have HC2:=ae (CP w1 g eb (eo+1) x.e.z.cal x.s.A x.s.a x.s.B x.s.b v1 B1 HF.out.cal (fun j u hu=>(hb1.cell (p:=⟨eb,eo+1+j,none⟩) heb).trans (vW.out j u hu)) ((hb1.frozen (p:=⟨eb,eo+1+2,none⟩) heb).trans hfz) heb (HA.out.keep hb1) (by omega) hs1);clear hs1 hk1 hb1 lY hB1 c0;go_wp2_with fail;refine HC2.out.mono ?_;rintro e w2 ⟨rfl,v2,hs2,hk2⟩;obtain ⟨B2,hB2⟩:∃B,B1++je x.e.z.cal=B:=⟨_,rfl⟩;have hl2:B2.length≤9000070:=by rw [←hB2];have:=HL.out;simp only [aZ];omega
 rw [hB2] at hs2;have hb2:=HB1.out.trans (bf iP.out hk2);have HB2:=ae hb2;have HS2:=ae hs2;have iR:=ae (iH.out.trans hk2);have mV:=ae hB2;have Sz:=HF.out.start;have sO:=ae (qj w2.drew g ⟨eb,eo+1+4,none⟩ v2 B2 x.e.z.start (by omega) (by omega) (by omega) hs2.drew ((zY.out _ _ hb2).trans c5));clear hs2 hk2 hb2 HC2 hB2 c5 Sz;go_wp2_with fail;go_still_tail 7,(by kernel_rfl);go_wp2_with fail;refine sO.out.mono ?_;rintro e w3 ⟨rfl,v3,hs3,hk3⟩;obtain ⟨B3,hB3⟩:∃B,B2++le x.e.z.start 2=B:=⟨_,rfl⟩;have hl3:B3.length≤9000080:=by rw [←hB3];simp only [aZ,aC];omega
 rw [hB3] at hs3;have hb3:=HB2.out.trans (bf HS2.out (aI hk3));have HB3:=ae hb3;have jV:=ae hs3;have mQ:=ae (iR.out.trans (aI hk3));have Aa:=ae hB3;have sV:=ae (zS w3 g eb (eo+1+5) x.s.C x.s.c v3 B3 ((zY.out _ _ hb3).trans c6) (by omega) hs3);clear hs3 hk3 hb3 sO hB3 c6;go_wp2_with fail;refine sV.out.mono ?_;rintro e w4 ⟨rfl,v4,hs4,hk4⟩;obtain ⟨B4,hB4⟩:∃B,B3++le 0 2=B:=⟨_,rfl⟩;have hl4:B4.length≤9000090:=by rw [←hB4];simp only [aZ,aC];omega
 rw [hB4] at hs4;have hb4:=HB3.out.trans (bf jV.out hk4);have HB4:=ae hb4;have Ac:=ae hs4;have Nu:=ae (mQ.out.trans hk4);have YD:=ae hB4;have hh0:=HF.out.hor;have zX:=ae (bG w4.drew g ⟨eb,eo+1+6,none⟩ v4 B4 x.e.z.hor 8 (by omega) (by omega) (by omega) (by omega) hs4.lt hs4.drew ((zY.out _ _ hb4).trans c7));clear hs4 hk4 hb4 sV hB4 c7 hh0;go_wp2_with fail;go_still_tail 7,(by kernel_rfl);go_wp2_with fail;refine zX.out.mono ?_;rintro e w5 ⟨rfl,v5,hs5,hk5⟩;obtain ⟨B5,KT⟩:∃B,B4++le x.e.z.hor 8=B:=⟨_,rfl⟩;have hl5:B5.length≤9000100:=by rw [←KT];simp only [aZ,aC];omega
 rw [KT] at hs5;have hb5:=HB4.out.trans (bf Ac.out (aI hk5));have sZ:=ae hs5;have xP:=ae (Nu.out.trans (aI hk5));have HQ5:=ae KT;have sQ:=ae (CW w5 g eb (eo+1+7) x.s.D x.s.d v5 B5 ((zY.out _ _ hb5).trans c8) (by omega) hs5);clear hs5 hk5 hb5 zX KT c8;go_wp2_with fail;refine sQ.out.mono ?_;rintro e w6 ⟨rfl,v6,hs6,hk6⟩;have JZ:=ae hs6;have Yu:=ae (xP.out.trans hk6);clear hs6 hk6 sQ;go_wp2_with fail
 go_end0
 refine ⟨rfl,v6,?_,Yu.out⟩;have h:=JZ.out;rw [←HQ5.out,←YD.out,←Aa.out,←mV.out,←qB.out] at h;unfold oK;simpa only [List.append_assoc] using h
end Go.Proofs.YtdibbemgpikgjaaGreatDoor
