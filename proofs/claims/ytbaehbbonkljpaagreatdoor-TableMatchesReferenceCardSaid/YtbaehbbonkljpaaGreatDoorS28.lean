/- The texts TrN, TrL, TrI, TrW, BEq, TrR, Lc, DgR, DgS, in this order. -/
import Derived.Test.YtbaehbbonkljpaaGreatDoorS00
import Derived.Lib.ByteType
import Derived.Defers
import Derived.Recover
import Derived.Test.YtbaehbbonkljpaaGreatDoorS01
import Derived.Test.YtbaehbbonkljpaaGreatDoorS02
import Derived.Test.YtbaehbbonkljpaaGreatDoorS03
import Derived.Test.YtbaehbbonkljpaaGreatDoorS08
import Derived.Test.YtbaehbbonkljpaaGreatDoorS18
import Derived.Test.YtbaehbbonkljpaaGreatDoorS27
set_option maxRecDepth 10000
set_option maxHeartbeats 8000000
namespace Go.Proofs.YtbaehbbonkljpaaGreatDoor
open Go Go.RowKit Go.Shelf
attribute [local go_sem] Oper.semAt_some
structure kF (w:World) (pb:Nat) (t:TypeId) (cs:Array Value) (W:World):Prop where
 os:W.os=w.os
 tape:W.tape=w.tape
 output:W.output=w.output
 size:w.heap.size<=W.heap.size
 block:∀k,k<w.heap.size->k≠pb->W.heap[k]? =w.heap[k]?
 tgt:W.heap[pb]? =some (.cells cs t (0,0))
 lt:pb<w.heap.size
theorem kF.grow {w W W':World} {pb:Nat} {t:TypeId} {cs:Array Value} (h:kF w pb t cs W) (hb:Below W.heap.size W W'):kF w pb t cs W':=
 ⟨hb.os.trans h.os,hb.tape.trans h.tape,hb.output.trans h.output,Nat.le_trans h.size hb.size,fun k hk hp=>(hb.block k (dP hk h.size)).trans (h.block k hk hp),(hb.block pb (dP h.lt h.size)).trans h.tgt,h.lt⟩
theorem kF.put {w W:World} {pb:Nat} {t:TypeId} {cs:Array Value} (h:kF w pb t cs W) (o:Nat) (v:Value):kF w pb t (cs.setIfInBounds o v) (W.setCell ⟨pb,o,none⟩ v):=
 ⟨h.os,h.tape,h.output,by simpa [World.setCell] using h.size,fun k hk hp=>(heap_setCell_other W _ k v hp).trans (h.block k hk hp),heap_setCell_same W pb o _ _ _ h.tgt,h.lt⟩
theorem kF.drew {w W:World} {pb:Nat} {t:TypeId} {cs:Array Value} (h:kF w pb t cs W):kF w pb t cs W.drew:=⟨h.os,h.tape,h.output,h.size,h.block,h.tgt,h.lt⟩
theorem kF.cell {w W:World} {pb:Nat} {t:TypeId} {cs:Array Value} (h:kF w pb t cs W) (i:Nat):W.cell? ⟨pb,i,none⟩=cs[i]? :=cell_of_row W pb i _ _ _ h.tgt
theorem kF.fZ {w W:World} {pb:Nat} {t:TypeId} {cs:Array Value} (h:kF w pb t cs W) (i:Nat):W.frozen? ⟨pb,i,none⟩=false:=frozen_of_row W pb i _ _ h.tgt
theorem YK {β:Type} {w:World} {pb B:Nat} {t:TypeId} (f:β->Array Value) (hB:w.heap.size<=B):OwnFrom B (fun s W=>kF w pb t (f s) W):=
 fun s W W' row hs hg hr=>⟨hg.os.trans hs.os,hg.tape.trans hs.tape,hg.output.trans hs.output,Nat.le_trans hs.size hg.size,
  fun k hk hp=>(hg.block k (dP hk hs.size) (fun e=>by have:=(hr k e.symm).1;omega)).trans (hs.block k hk hp),
  (hg.block pb (dP hs.lt hs.size) (fun e=>by have:=(hr pb e.symm).1;have:=hs.lt;omega)).trans hs.tgt,hs.lt⟩
structure bH (w:World) (rb pb:Nat) (t:TypeId) (cs:Array Value) (w':World):Prop where
 os:w'.os=w.os
 tape:w'.tape=w.tape
 output:w'.output=w.output
 size:w.heap.size<=w'.heap.size
 block:∀k,k<w.heap.size->k≠pb->k≠rb->w'.heap[k]? =w.heap[k]?
 tgt:w'.heap[pb]? =some (.cells cs t (0,0))
theorem Vb {w w2 W:World} {M pb po B:Nat} {t:TypeId} {cs:Array Value} {pre:List (Nat×UInt8)} {xi:Nat} {xc:UInt8} {v u:Int} (qO:M<=pb) (hpb:pb<w.heap.size) (hw2:w.heap.size<w2.heap.size)
  (hbx:Boxed W w.heap.size 125 (.pointer (some ⟨pb,po,none⟩))) (hB:kF w2 pb t (cs.setIfInBounds po (I (yO pre))) W) (hu:yO pre=u) (hv:v=zt u xc):
  KeepsFrom B W (W.setCell ⟨pb,po,none⟩ (I v)).drew/\BK M w2.heap.size W (W.setCell ⟨pb,po,none⟩ (I v)).drew/\Boxed (W.setCell ⟨pb,po,none⟩ (I v)).drew w.heap.size 125 (.pointer (some ⟨pb,po,none⟩))/\kF w2 pb t (cs.setIfInBounds po (I (yO (pre++ [(xi,xc)])))) (W.setCell ⟨pb,po,none⟩ (I v)).drew:=by
 have hk:KeepsOthers W (W.setCell ⟨pb,po,none⟩ (I v)):=KeepsOthers.setCell _ _ _;have hk2:KeepsOthers W (W.setCell ⟨pb,po,none⟩ (I v)).drew:=⟨hk.size,hk.same⟩;refine ⟨hk2.from _,⟨((Below.refl M W).setCell (p:=⟨pb,po,none⟩) qO _).drew,?_⟩,?_,?_⟩
 ·exact World.cell?_of_block (a:=⟨w2.heap.size,0,none⟩) (heap_setCell_other W _ _ _ (by show w2.heap.size≠pb;omega))
 ·exact (heap_setCell_other W _ _ _ (by show w.heap.size≠pb;omega)).trans hbx
 ·have h:=hB.put po (I v);rw [Array.setIfInBounds_setIfInBounds] at h;rw [QV,hu,<-hv];exact h.drew
def TNum (M:Nat) (w:World) (rb pb po:Nat) (t:TypeId) (cs:Array Value) (rest:List UInt8) (size:Nat) (e:Ending) (w':World):Prop:=
 e= .returned (.tuple #[])/\jO M w' rb (rest.drop size)/\bH w rb pb t (cs.setIfInBounds po (I (O0 rest false size))) w'
theorem xO (M:Nat) (w:World) (rb pb po size:Nat) (t:TypeId) (cs:Array Value) (rest:List UInt8) (hr:jO M w rb rest) (h8:size<=8) (hn:size<=rest.length) (hp:w.heap[pb]? =some (.cells cs t (0,0))) (hpo:po<cs.size) (qO:M<=pb) (hne:pb≠rb):
  Calls Tryz.prog 183 #[pt rb, .pointer (some ⟨pb,po,none⟩),I size] w (TNum M w rb pb po t cs rest size):=by
 refine (callsIn_wide (n:=3)).1 ?_;have hro:Fence.wide.round=none:=rfl;have h1:1<=3:=by omega
 have hlt:=hr.lt;have hpl:pb<w.heap.size:=(bV.1 hp).1;have hMl:=hr.lo;have hc0:w.cell? ⟨pb,po,none⟩=some cs[po]:=by rw [cell_of_row w pb po _ _ _ hp];exact Array.getElem?_eq_getElem hpo
 have hf0:w.frozen? ⟨pb,po,none⟩=false:=frozen_of_row w pb po _ _ hp;obtain ⟨WS,hWS⟩:∃W,w.setCell ⟨pb,po,none⟩ (I 0)=W:=⟨_,rfl⟩;have hsS:WS.heap.size=w.heap.size:=by rw [<-hWS];simp [World.setCell]
 have hTS:kF w pb t (cs.setIfInBounds po (I 0)) WS:=by
  rw [<-hWS];exact ⟨rfl,rfl,rfl,by simp [World.setCell],fun k _ hk2=>heap_setCell_other _ _ k _ hk2,heap_setCell_same _ pb po _ _ _ hp,hpl⟩
 obtain ⟨W1,hW1⟩:∃W,WS.alloc (.cells #[.pointer (some ⟨pb,po,none⟩)] 125)=W:=⟨_,rfl⟩;have hs1:W1.heap.size=w.heap.size+1:=by rw [<-hW1];simp [hsS]
 have hT1:kF w pb t (cs.setIfInBounds po (I 0)) W1:=by rw [<-hW1];exact hTS.grow (ag WS _)
 have aab:Boxed W1 w.heap.size 125 (.pointer (some ⟨pb,po,none⟩)):=by
  rw [<-hW1,<-hsS];exact Boxed.new WS 125 (.pointer (some ⟨pb,po,none⟩))
 rw [<-hWS] at hW1;have hr1:jO M W1 rb rest:=hr.of (hT1.block rb hlt (fun e=>hne e.symm)) fun k hk=>hT1.block k (by omega) (by omega);have HT0:=wU M W1 rb size rest hr1 hn;obtain ⟨bs,hbs⟩:∃bs,rest.take size=bs:=⟨_,rfl⟩;have hbl:bs.length=size:=by rw [<-hbs,List.length_take];omega
 unfold GotT at HT0;rw [hbs] at HT0;have hrd:O0 rest false size=yO (upto (bk bs) bs.length):=by
  have e1:tkB rest false size=false:=by unfold tkB;simp;omega
  unfold O0 tk;rw [e1];simp only [Bool.false_eq_true,if_false,hbs]
 have HL:=ae hbl;have HRD:=ae hrd;have HT:=ae HT0;have HT1:=ae hT1;have HBOX:=ae aab;have HW1:=ae hW1;have HP:=ae hp;clear hr hr1 HT0 hbs hbl hrd hT1 aab hW1 hWS hsS hTS hp;refine callsIn_of_wp_marks Tryz.func183 rfl trivial ?_ hro;simp only [Tryz.ntmps183,List.size_toArray,List.length_cons,List.length_nil,Nat.reduceAdd,Nat.reduceSub,Array.replicate_succ,Array.replicate_zero,List.push_toArray,List.append_toArray,List.nil_append,List.cons_append]
 gi_wp2_with first
  |(refine ⟨trivial,?_⟩;gi_at_call 186;rw [HW1.out];refine (callsIn_wide.2 HT.out).mono ?_;rintro e w2 ⟨bb,off,c,rfl,hcl,hcc,hbM,hby,hrs,hk⟩;have vk:=ae hby;have KW:=ae hrs;have HK:=ae hk;clear hby hrs hk)
  |(refine ⟨trivial,?_⟩;gi_at_call 187;refine (Xw Fence.wide 2 trivial hro _ _ _ _).mono ?_;rintro e w' ⟨rfl,rfl⟩)
 have hsk:=HK.out.size;have hT2:kF w2 pb t (cs.setIfInBounds po (I 0)) w2:=⟨rfl,rfl,rfl,Nat.le_refl _,fun _ _ _=>rfl,(HK.out.block pb (by omega) hne).trans HT1.out.tgt,by omega⟩;have aac:Boxed w2 w.heap.size 125 (.pointer (some ⟨pb,po,none⟩)):=(HK.out.block w.heap.size (by omega) (by omega)).trans HBOX.out;have hB1:Below w.heap.size w2 (w2.alloc (.cells #[.slice (some ⟨bb,off,none⟩) size c] 55)):=((Below.refl _ w2).alloc (Nat.le_refl _) _).mono (by omega);have Je:BytesAt (w2.alloc (.cells #[.slice (some ⟨bb,off,none⟩) size c] 55)) M (some ⟨bb,off,none⟩) bs:= .inr ⟨bb,off,rfl,hbM,fun j hj=>(hB1.cell (p:=⟨bb,off+j,none⟩) (by show bb<w.heap.size;omega)).trans (vk.out j (by have:=HL.out;omega))⟩;have bN:=Boxed.new w2 55 (.slice (some ⟨bb,off,none⟩) size c);have hcl2:(w2.alloc (.cells #[.slice (some ⟨bb,off,none⟩) size c] 55)).cell? ⟨w2.heap.size,0,none⟩=some (.slice (some ⟨bb,off,none⟩) size c):=bN.cell;have hst:=LH Fence.wide (3 - 1) trivial hro (by omega) w2.heap.size M (some ⟨bb,off,none⟩) c bs (by have:=HL.out;omega) (w2.alloc (.cells #[.slice (some ⟨bb,off,none⟩) size c] 55)) (by simp) (by simp;omega) (by rw [HL.out];exact hcl2) Je;have hI0:kF w2 pb t (cs.setIfInBounds po (I 0)) (w2.alloc (.cells #[.slice (some ⟨bb,off,none⟩) size c] 55)):=hT2.grow (ag w2 _);refine wpIn_rangeFunc_ownG hro h1 (gf:=188) (lb:= #[.pointer (some ⟨w2.heap.size,0,none⟩)]) rfl trivial (enters_of Tryz.func188 (by kernel_rfl) rfl)
  hst (fun h k=>h.trans k) (bk_b (by simp;omega) (by simp)) (Below.refl _ _) (fun _=>rfl)
  (fun pre W=>Boxed W w.heap.size 125 (.pointer (some ⟨pb,po,none⟩))/\kF w2 pb t (cs.setIfInBounds po (I (yO pre))) W)
  (fun _ _ _=>False)
  (OwnFrom.and (Own.from (boxed_own _ _ _) _) (YK _ (by simp)))
  (fun _ _ _ _ _ hs _ _=>hs)
  ⟨aac.alloc _,hI0⟩
  (fun x=> {tmps:= #[pt rb, .pointer (some ⟨pb,po,none⟩),I size,undef, .pointer (some ⟨w.heap.size,0,none⟩),undef,undef,Extern.Stop.cell x.2, .pointer (some ⟨pb,po,none⟩), .pointer (some ⟨pb,po,none⟩),pt rb,I size, .slice (some ⟨bb,off,none⟩) size c, .func (.func 188) #[] #[.pointer (some ⟨w2.heap.size,0,none⟩)], .int .i64 (x.1:Int),Extern.Stop.cell x.2,undef,undef,undef,undef,undef,undef,undef,undef,undef],defers:= []}) ?assign ?body ?done ?stop
 case assign=>
  intro l x W K hK
  gi_wp2
  exact hK
 case body=>
  rintro l pre ⟨xi,xc⟩ W ⟨hbx,hB⟩ _;have hc:=hbx.cell;have hx1:(xc.toNat:Int)<256:=by have:=xc.toNat_lt;omega
  have hx2:(0:Int)<=xc.toNat:=by omega
  simp only [Extern.Stop.cell];have hcp:W.cell? ⟨pb,po,none⟩=some (I (yO pre)):=(hB.cell po).trans (by simp [hpo]);have hfp:=hB.fZ po;have HBX:=ae hbx;have HBB:=ae hB;have hwl:w.heap.size<w2.heap.size:=by omega
  obtain ⟨u,hu⟩:∃u,yO pre=u:=⟨_,rfl⟩;rw [hu] at hcp;have HU:=ae hu;have HV:Hid (bits BinOp.or IntKind.i64 (IntKind.i64.wrap (u*256)) xc.toNat=zt u xc):=ae (by unfold zt;rw [show IntKind.i64.wrap (u*256)=wrap64 (u*256) from by rw [IntKind.wrap_i64];unfold wrap64;omega]);have hxw:IntKind.i64.wrap (xc.toNat:Int)=(xc.toNat:Int):=by rw [IntKind.wrap_i64];omega
  clear hbx hB hT2 aac hB1 Je bN hcl2 hst hI0 hc0 hf0 hu vk KW HT HT1 HBOX HW1 HP HRD HL
  gi_wp2
  gi_region
  all_goals exact Vb qO hpl hwl HBX.out HBB.out HU.out HV.out
 case done=>
  rintro D ys W hD rfl ⟨hbx,hB⟩ hK;have hc:=hbx.cell
  gi_wp2
  refine ⟨by simp, .inl ⟨_,_,rfl,run_takeDeferred hK,?_⟩⟩;refine ⟨.tuple #[],by simp [results,Tryz.results183],?_⟩;have hD2:w2.heap.size+1<=D:=by simpa using hD
  have hpo:∀k,k<w2.heap.size->(W.putObj D (.deferred none)).heap[k]? =W.heap[k]? :=fun k hk=>World.putObj_heap_other (by omega);refine ⟨rfl,KW.out.of ((hpo rb (by omega)).trans (hB.block rb (by omega) (fun e=>hne e.symm))) (fun k hk=>(hpo k (by omega)).trans (hB.block k (by omega) (by omega))),?_⟩;rw [HRD.out];have hT1:=HT1.out;refine ⟨hB.os.trans (HK.out.os.trans hT1.os),hB.tape.trans (HK.out.tape.trans hT1.tape),hB.output.trans (HK.out.output.trans hT1.output),?_,fun k hk h2 h3=>?_,?_⟩
  ·have h1:=hB.size;simp only [World.putObj,Array.size_setIfInBounds];omega
  ·exact (hpo k (by omega)).trans ((hB.block k (by omega) h2).trans ((HK.out.block k (by omega) h3).trans (hT1.block k hk h2)))
  ·refine (hpo pb (by omega)).trans ?_;exact hB.tgt
 case stop=>
  rintro D c pre W _ _ h _;exact h.elim
end Go.Proofs.YtbaehbbonkljpaaGreatDoor
namespace Go.Proofs.YtbaehbbonkljpaaGreatDoor
open Go Go.RowKit
theorem bH.trans {w w1 w2:World} {rb pb:Nat} {t:TypeId} {cs cs2:Array Value} (h:bH w rb pb t cs w1) (k:bH w1 rb pb t cs2 w2):bH w rb pb t cs2 w2:=
 ⟨k.os.trans h.os,k.tape.trans h.tape,k.output.trans h.output,Nat.le_trans h.size k.size,fun b hb h1 h2=>(k.block b (dP hb h.size) h1 h2).trans (h.block b hb h1 h2),k.tgt⟩
theorem bH.refl {w:World} {rb pb:Nat} {t:TypeId} {cs:Array Value} (h:w.heap[pb]? =some (.cells cs t (0,0))):bH w rb pb t cs w:=⟨rfl,rfl,rfl,Nat.le_refl _,fun _ _ _ _=>rfl,h⟩
theorem bH.qZ {w w1 w2:World} {rb pb:Nat} {t:TypeId} {cs:Array Value} (h:bH w rb pb t cs w1) (hk:gB rb w1 w2) (hl:pb<w1.heap.size) (hne:pb≠rb):bH w rb pb t cs w2:=
 ⟨hk.os.trans h.os,hk.tape.trans h.tape,hk.output.trans h.output,Nat.le_trans h.size hk.size,fun b hb h1 h2=>(hk.block b (dP hb h.size) h2).trans (h.block b hb h1 h2),(hk.block pb hl hne).trans h.tgt⟩
theorem bH.grow {w w1 w2:World} {rb pb:Nat} {t:TypeId} {cs:Array Value} (h:bH w rb pb t cs w1) (hb:Below w1.heap.size w1 w2) (hl:pb<w1.heap.size) (hne:pb≠rb):bH w rb pb t cs w2:=h.qZ (gB.of_below hb) hl hne
theorem bH.put {w w1:World} {rb pb:Nat} {t:TypeId} {cs:Array Value} (h:bH w rb pb t cs w1) (o:Nat) (v:Value):bH w rb pb t (cs.setIfInBounds o v) (w1.setCell ⟨pb,o,none⟩ v):=
 ⟨h.os,h.tape,h.output,by simpa [World.setCell] using h.size,fun b hb h1 h2=>(heap_setCell_other w1 _ b v h1).trans (h.block b hb h1 h2),heap_setCell_same w1 pb o _ _ _ h.tgt⟩
theorem bH.drew {w w1:World} {rb pb:Nat} {t:TypeId} {cs:Array Value} (h:bH w rb pb t cs w1):bH w rb pb t cs w1.drew:=⟨h.os,h.tape,h.output,h.size,h.block,h.tgt⟩
theorem bH.bT {w w1:World} {rb pb:Nat} {t:TypeId} {cs:Array Value} (h:bH w.drew rb pb t cs w1):bH w rb pb t cs w1:=⟨h.os,h.tape,h.output,h.size,h.block,h.tgt⟩
theorem bH.cell {w w1:World} {rb pb:Nat} {t:TypeId} {cs:Array Value} (h:bH w rb pb t cs w1) (i:Nat):w1.cell? ⟨pb,i,none⟩=cs[i]? :=cell_of_row w1 pb i _ _ _ h.tgt
theorem bH.fZ {w w1:World} {rb pb:Nat} {t:TypeId} {cs:Array Value} (h:bH w rb pb t cs w1) (i:Nat):w1.frozen? ⟨pb,i,none⟩=false:=frozen_of_row w1 pb i _ _ h.tgt
theorem jO.put {M pb o:Nat} {w:World} {rb:Nat} {rest:List UInt8} (h:jO M w rb rest) (hp:M<=pb) (hne:pb≠rb) (v:Value):jO M (w.setCell ⟨pb,o,none⟩ v) rb rest:=
 h.of (heap_setCell_other w _ rb v (fun e=>hne e.symm)) fun k hk=>heap_setCell_other w _ k v (by show k≠pb;omega)
def SL (M:Nat) (w:World) (rb pb po:Nat) (t:TypeId) (cs:Array Value) (n:Int) (R:List UInt8) (e:Ending) (w':World):Prop:=
 e= .returned (.tuple #[])/\jO M w' rb R/\bH w rb pb t (cs.setIfInBounds po (I n)) w'
theorem hvs2 (x:Int):wrap64 (hvs 0 (upto (bk (le x 2)) 2))=x%65536:=by
 have e:hvs 0 (upto (bk (le x 2)) 2)=((0*256+((byteOf (x / 256)).toNat:Int))*256+((byteOf x).toNat:Int)):=rfl;rw [e];simp only [oV];unfold wrap64;omega
theorem rdN_2 (x:Int) (R:List UInt8):O0 (le x 2++R) false 2=x%65536:=by
 unfold O0 yO;rw [(U6 x 2 R).1,aC,Z9 _ 0 0 (by unfold wrap64;omega)];exact hvs2 x
def ZY (M:Nat) (w:World) (rb:Nat) (n:Int) (R:List UInt8) (e:Ending) (w':World):Prop:=e= .returned (I n)/\jO M w' rb R/\gB rb w w'
theorem Fp (n:Int):IntKind.i16.wrap n=(n+32768)%65536 - 32768:=by
 simp [IntKind.wrap,IntKind.bits,IntKind.signed];omega
theorem Yu {w:World} {b o:Nat} {xs:List UInt8} (h:∀j,j<32->w.cell? ⟨b,o+j,none⟩=some (Extern.Stop.cell (xs[j]?.getD 0))) (hl:(ax xs).length=32):∀j u,(ax xs)[j]? =some u->w.cell? ((⟨b,o,none⟩:Addr).add j)=some u:=fun j u hu=>by
 have hj:=(gQ.1 hu).1;rw [Addr.add_mid,h j (by omega)];unfold ax at hu hl hj;rw [List.length_map] at hl hj;rw [List.getElem?_map,bK (by omega)] at hu;rw [bK (by omega)];simpa using hu
def TTxtR (M:Nat) (w:World) (rb pb po:Nat) (t:TypeId) (cs:Array Value) (v:Value) (R:List UInt8) (e:Ending) (w':World):Prop:=
 e= .returned (.tuple #[])/\jO M w' rb R/\bH w rb pb t (cs.setIfInBounds po v) w'
def putRow (cs:Array Value) (o:Nat) (vs:List Value):Array Value:=(splice cs.toList o vs).toArray
theorem JP (M:Nat) (w:World) (rb pb po:Nat) (t:TypeId) (cs:Array Value) (xs R:List UInt8) (hr:jO M w rb (xs++R)) (h32:xs.length=32) (hp:w.heap[pb]? =some (.cells cs t (0,0))) (hpo:po+32<=cs.size) (qO:M<=pb) (hne:pb≠rb):
  Calls Tryz.prog 180 #[pt rb, .pointer (some ⟨pb,po,none⟩)] w fun e w'=>e= .returned (.tuple #[])/\jO M w' rb R/\bH w rb pb t (putRow cs po (ax xs)) w':=by
 have hpl:pb<w.heap.size:=(bV.1 hp).1;have HC:=ae (wU M w.drew rb 32 (xs++R) hr.drew (by rw [bF,h32];omega));have HP:=ae hp;have HX:Hid ((ax xs).length=32):=ae (by simp [ax,h32]);have HE:Hid ((xs++R).take 32=xs/\(xs++R).drop 32=R):=ae ⟨by rw [<-h32,List.take_append_of_le_length (Nat.le_refl _),List.take_of_length_le (Nat.le_refl _)],by rw [<-h32,List.drop_append_of_le_length (Nat.le_refl _),List.drop_of_length_le (Nat.le_refl _)];rfl⟩;clear hr hp h32;go_enter Tryz.func180,Tryz.ntmps180;go_wp2_with fail
 go_region_law (first|(go_simp;go_at_call 186;refine HC.out.mono ?_;rintro e w5 ⟨b5,o5,c5,rfl,hl5,hm5,hbM,hb5,xw,hk5⟩;rw [HE.out.1] at hb5;rw [HE.out.2] at xw;have sV:=ae xw;have yX:=ae hk5;have qU:Hid (∀j u,(ax xs)[j]? =some u->w5.cell? ((⟨b5,o5,none⟩:Addr).add j)=some u):=ae (Yu hb5 HX.out);have Oa:Hid (w5.heap[pb]? =some (.cells cs t (0,0))):=ae ((hk5.block pb hpl hne).trans HP.out);clear hb5 xw hk5)|(refine wu (by rfl) _ _ _ _ (by rfl) 5 Tryz.underlying55 (by kernel_rfl) pb po 32 32 ⟨b5,o5,none⟩ 32 c5 (by rfl) (by rfl) cs t Oa.out (ax xs) (by rw [HX.out];rfl) qU.out (by rw [HX.out];exact hpo) (Jv xs) (putRow cs po (ax xs)) rfl ?_))
 all_goals
  have H6:Hid (jO M (w5.setRow pb (putRow cs po (ax xs))) rb R):=ae (sV.out.of (setRow_other _ _ _ _ (fun e=>hne e.symm)) fun k hk=>setRow_other _ _ _ _ (by omega));have H7:Hid (bH w rb pb t (putRow cs po (ax xs)) (w5.setRow pb (putRow cs po (ax xs)))):=ae ⟨yX.out.os,yX.out.tape,yX.out.output,by simpa [World.setRow] using yX.out.size,fun k hk h1 h2=>(setRow_other _ _ k _ h1).trans (yX.out.block k hk h2),setRow_heap _ _ _ _ _ _ Oa.out⟩;go_wp2_with fail
  go_end0
  exact ⟨rfl,H6.out,H7.out⟩
attribute [local go_sem] dI dM dJ dN fM fO dG dK dH dL
theorem UE {W W':World} {lo e size g n m cap rb o:Nat} {xs:List Value} {v:Value} {cur:Array Value} (h:W.ownsRow lo e size (.slice (some ⟨g,0,none⟩) n cap) m xs) (hg:W.heap[g]? =some (.cells cur e (0,0))) (hp:bH W rb g e (cur.setIfInBounds o v) W'):
  W'.ownsRow lo e size (.slice (some ⟨g,0,none⟩) n cap) m (xs.set o v):=by
 obtain ⟨cur',h1,h2,h3,h4,h5,h6,h7,rfl⟩:=lT h;rw [hg] at h1;injection h1 with h1;injection h1 with h1;subst h1;exact Nj hp.tgt h2 h3 h4 (by rw [Array.size_setIfInBounds];exact h5) (by rw [Array.toList_setIfInBounds,List.take_set,h6]) (by rw [List.length_set];exact h7)
theorem ints_set (zs:List Int) (z:Int):((zs.map I)++ [I 0]).set zs.length (I z)=(zs++ [z]).map I:=by
 rw [List.set_append_right _ _ (by simp)];simp
end Go.Proofs.YtbaehbbonkljpaaGreatDoor
namespace Go.Proofs.YtbaehbbonkljpaaGreatDoor
open Go Go.RowKit
attribute [local go_sem] dI dM dJ dN fM fO dG dK dH dL
def bu:Tb:=⟨0,0,0,fU,fU,[]⟩
theorem ed:(Tryz.prog.info? 26).map (fun i=>(i.zero,i.size))=some (some (.agg (ai bu (.slice none 0 0))),(ai bu (.slice none 0 0)).size):=by kernel_rfl
theorem oN:Tryz.zeroCells26=ai bu (.slice none 0 0):=by kernel_rfl
theorem GU (t:Tb) (v:Value) (n:Int):(ai t v).setIfInBounds 0 (I n)=ai {t with bG:=n} v:=by simp [ai,jy]
theorem Eh (t:Tb) (v:Value) (n:Int):(ai t v).setIfInBounds 1 (I n)=ai {t with version:=n} v:=by simp [ai,jy]
theorem zX (t:Tb) (v:Value) (n:Int):(ai t v).setIfInBounds 2 (I n)=ai {t with aO:=n} v:=by simp [ai,jy]
theorem NG (t:Tb) (v:Value) (xs:List UInt8) (h:t.prev.length=32) (hx:xs.length=32):putRow (ai t v) 4 (ax xs)=ai {t with prev:=xs} v:=by
 unfold putRow splice ai jy;have h1:(ax xs).length=32:=by simp [ax,hx]
 have h2:(ax t.prev).length=32:=by simp [ax,h]
 rw [h1];simp [h2]
end Go.Proofs.YtbaehbbonkljpaaGreatDoor
namespace Go.Proofs.YtbaehbbonkljpaaGreatDoor
open Go Go.RowKit
def QK (bs:List UInt8):ByteArray:=⟨bs.toArray⟩
theorem zC (xs:List UInt8):(QK xs).toList=xs:=by rw [Lib.toList_data];rfl
theorem BL (A:Option Addr) (bs:List UInt8) (c:Nat) (w:World) (B:Nat) (h:BytesAt w B A bs):
  (convert 55 9 (.slice A bs.length c)).run Tryz.prog w= .ok (.string (QK bs)) w:=by
 have e:QK bs=strOfNums (bs.map fun x=>(x.toNat:Int)):=by
  unfold QK strOfNums;congr 1;rw [List.map_map];congr 1;rw [show ((fun n:Int=>UInt8.ofNat n.toNat) ∘ fun x:UInt8=>(x.toNat:Int))=id from by funext x;simp];simp
 rcases h with h|⟨b,off,rfl,_,hc⟩
 ·obtain rfl:=List.eq_nil_of_length_eq_zero h;exact run_convert_bytes_zero w _ _ Tryz.underlying55 Tryz.underlying5 A c _ Tryz.underlying9
 ·rw [e];refine run_convert_bytes_arg w _ _ Tryz.underlying55 Tryz.underlying5 b off bs.length c _ (by simp) (fun i hi=>?_) _ Tryz.underlying9;rw [hc i hi];simp [List.getD,hi,Extern.Stop.cell]
theorem BH (w:World) (A A':Option Addr) (xs ys:List UInt8) (c d B B':Nat) (h1:BytesAt w B A xs) (h2:BytesAt w B' A' ys):
  Calls Tryz.prog 46 #[.slice A xs.length c, .slice A' ys.length d] w fun e w'=>e= .returned (.bool (xs==ys))/\w'=w:=by
 have e1:=BL A xs c w B h1;have e2:=BL A' ys d w B' h2;clear h1 h2;go_enter Tryz.func46,Tryz.ntmps46
 go_wp2
 go_ret;exact ⟨by show Ending.returned (.bool ((QK xs).toList==(QK ys).toList))=_;rw [zC,zC],rfl⟩
theorem ng {P:Program} {fn:Func} {p q:Tmp} {t1 t2:TypeId} (h:fn.results= #[.cell p t1, .cell q t2]) (tmps:Array Value) (w:World) (g g2:Nat) (t:TypeId) (cs:Array Value) (fr:Nat×Nat) (d:TypeDesc) (v:Value)
  (hp:tmps.getD p undef= .pointer (some ⟨g,0,none⟩)) (hg:w.heap[g]? =some (.cells cs t fr)) (hu:P.underlying t1=some d) (hd:(match d with| .struct _| .array _ _=>true|_=>false)=true) (hi:(P.info? t1).map (·.size)=some cs.size)
  (hq:tmps.getD q undef= .pointer (some ⟨g2,0,none⟩)) (hv:(loadVar t2 ⟨g2,0,none⟩).run P w= .ok v w):
  (results fn tmps).run P w= .ok (.tuple #[.agg cs,v]) w:=by
 have hp':tmps[p]?.getD undef= .pointer (some ⟨g,0,none⟩):=by simpa using hp
 have hq':tmps[q]?.getD undef= .pointer (some ⟨g2,0,none⟩):=by simpa using hq
 simp [results,h,hp',hq',asAddr,run_loadVar_row w g t t1 cs fr d hg hu hd hi,hv]
theorem zD (p:Addr) (w:World):
  CallsD Tryz.prog 66 #[.pointer (some p)] .returning w fun e u' w'=>e= .returned (.tuple #[])/\u'= .returning/\w'=w:=by
 have hnn:∀w,(binOp .neq 20 .nilIface .nilIface).run Tryz.prog w= .ok (.bool false) w:=fun w=>Lib.run_neq_nil_nil w Tryz.underlying20;refine callsD_of_wpS Tryz.func66 rfl fun c₀ cs hu=>?_;apply wpS_seq;apply wpS_region;simp [wpOpsS,go_sem,recoverD,hu,Tryz.ntmps66,Exit.thenS];apply wpS_seq;apply wpS_region;simp [wpOpsS,go_sem,hnn,Exit.thenS];refine wpS_cond (t:=false) (by simp [Act.eval,Array.replicate]) ?_;simp only [Bool.false_eq_true,if_false];refine wpS_of_wp (wp_skip ?_);cases c₀
 simp_all [bodyPostS,results,Tryz.results66]
section
variable {P:Program} {ops:Array Oper} {Q:Exit->Act->World->Prop} {md:Region.Mode} {S:World->Prop} {i:Nat} {oi:Oper} {v:Value} {fuel:Nat} {listed:Array Bool} {a:Act} {w:World}
theorem oI (d:Option Tmp) (hi:ops[i]? =some oi) (hd:oi.dst=d)
  (hs:Region.noSelect ops=true) (hf:Region.free md ops listed i=true) (hr:(Region.ready md ops listed).contains i=true)
  (hQ:∀c a w,Q (.panic c) (a.put d v) w->Q (.panic c) a w) (hy:YieldsIf P ops S oi v a) (hS:S w)
  (h:wpAnyH P md ops Q S fuel (listed.setIfInBounds i true) (a.put d v) w):wpAnyH P md ops Q S (fuel+1) listed a w:=by
 subst hd;exact wpAnyH_take hi hs hf hr hQ hy hS h
theorem sN (hr:Region.ready md ops listed= [i]) (ho:ops[i]? =some oi) (hw:Region.wanted oi (yielded ops a.tmps)=true) (ty:TypeId) (x y:Operand) (hop:oi.op= .store ty x y) (hd:oi.dst=none)
  (g:Nat) (cells:Array Value) (hx:a.eval x= .pointer (some ⟨g,0,none⟩)) (hy:a.eval y= .agg cells) (t:TypeId) (old:Array Value) (hg:w.heap[g]? =some (.cells old t (0,0))) (hi:(P.info? ty).map (·.size)=some cells.size) (hold:old.size=cells.size) (h1:cells.all (·.oneCell')=true)
  (hS:S (w.setRow g cells)) (h:S (w.setRow g cells)->wpAnyH P md ops Q S fuel (listed.setIfInBounds i true) a (w.setRow g cells)):wpAnyH P md ops Q S (fuel+1) listed a w:=by
 refine wpAnyH_ready (rs:= [i]) hr (by simp) ?_;refine AllReadyH.cons ho (fun K hK=>?_) AllReadyH.nil;rw [if_pos hw];refine wp_store_row ty x y hop g cells hx hy t old hg hi hold h1 ?_;rw [hd];exact hK.out a _ hS h
end
theorem bH.grown {M:Nat} {w0 w w':World} {rb pb:Nat} {t:TypeId} {cs:Array Value} (h:bH w rb pb t cs w') (hb:Below M w0 w) (h1:M<=pb) (h2:M<=rb) (hp:pb<w.heap.size):Below M w0 w':=
 hb.trans ⟨h.os,h.tape,h.output,h.size,fun k hk=>h.block k (by omega) (by omega) (by omega)⟩
def vM (cs:Array Value) (o:Nat):List Value->Array Value
 | []=>cs
 |v::r=>vM (cs.setIfInBounds o v) (o+1) r
theorem Ff:∀(vs pre old:List Value),old.length=vs.length->vM (pre++old).toArray pre.length vs=(pre++vs).toArray
 | [],pre,old,h=>by
  have:old= []:=List.eq_nil_of_length_eq_zero h;simp [vM,this]
 |v::r,pre,old,h=>by
  obtain ⟨x,old',rfl⟩:∃x old',old=x::old':=by
   cases old with
   |nil=>simp at h
   |cons x o=>exact ⟨x,o,rfl⟩
  have h2:=Ff r (pre++ [v]) old' (by simpa using h);have e:(pre++x::old').toArray.setIfInBounds pre.length v=((pre++ [v])++old').toArray:=by simp
  unfold vM;rw [e];simpa using h2
theorem wo:∀(vs:List Value) (w:World) (b o:Nat) (cs:Array Value) (t:TypeId),w.heap[b]? =some (.cells cs t (0,0))->(w.setCells b o vs).heap[b]? =some (.cells (vM cs o vs) t (0,0))
 | [],_,_,_,_,_,h=>h
 |v::r,w,b,o,_,t,h=>wo r _ b (o+1) _ t (heap_setCell_same w b o _ _ v h)
theorem oq:∀(vs:List Value) (w:World) (b o k:Nat),k≠b->(w.setCells b o vs).heap[k]? =w.heap[k]?
 | [],_,_,_,_,_=>rfl
 |v::r,w,b,o,k,h=>(oq r _ b (o+1) k h).trans (heap_setCell_other w _ k v h)
theorem uB:∀(vs:List Value) (w:World) (b o:Nat),(w.setCells b o vs).heap.size=w.heap.size
 | [],_,_,_=>rfl
 |v::r,w,b,o=>(uB r _ b (o+1)).trans (by simp [World.setCell])
theorem kK {B b:Nat} {w0:World} (h:B<=b):∀(vs:List Value) (w:World) (o:Nat),Below B w0 w->Below B w0 (w.setCells b o vs)
 | [],_,_,hb=>hb
 |v::r,_,o,hb=>kK h r _ (o+1) (hb.setCell (p:=⟨b,o,none⟩) h v)
theorem O8 (t:Tb) (v:Value):jy t v=([I t.bG,I t.version,I t.aO,v]++ax t.prev)++ax t.bP:=by simp [jy]
theorem CQ (t:Tb) (v:Value) (m:List UInt8) (hp:t.prev.length=32) (h1:t.bP.length=32) (h2:m.length=32):vM (ai t v) 36 (ax m)=ai {t with bP:=m} v:=by
 have h:=Ff (ax m) ([I t.bG,I t.version,I t.aO,v]++ax t.prev) (ax t.bP) (by simp [ax,h1,h2]);have hl:([I t.bG,I t.version,I t.aO,v]++ax t.prev).length=36:=by simp [ax,hp]
 rw [hl] at h;unfold ai;rw [O8,O8];exact h
theorem lh (m:List UInt8) (h:m.length=32):(Tryz.prog.info? 24).map (·.size)=some (cD m).size:=by rw [kL,h];kernel_rfl
theorem JJ (t:Tb) (h:FY t) (hp:t.prev.length=32):0<(qQ t).length/\(qQ t).length<=400:=by
 have e:=Oz tK t.aF 103 t.aF.length (fun e he=>Y0 e (h.aF e he).made (by obtain ⟨j,hj⟩:=List.getElem?_of_mem he;rw [h.names j e hj,Dw];omega));rw [List.take_length] at e;have h2:=h.num;unfold qQ;simp only [bF,List.length_cons,List.length_nil,aC,hp];omega
structure SK (w:World) (ks ts:Array Value) (W:World):Prop where
 k:AV w.heap.size 24 ks W
 t:AV (w.heap.size+1) 26 ts W
 r:AV (w.heap.size+2) 26 (ai bu (.slice none 0 0)) W
 lo:Below w.heap.size w W
theorem SK.start (w:World) (ks ts:Array Value):SK w ks ts (((w.alloc (.cells ks 24)).alloc (.cells ts 26)).alloc (.cells (ai bu (.slice none 0 0)) 26)):=by
 obtain ⟨W,hW⟩:∃W,(w.alloc (.cells ks 24)).alloc (.cells ts 26)=W:=⟨_,rfl⟩;have hs:W.heap.size=w.heap.size+2:=by rw [<-hW];simp
 have hb:Below w.heap.size w W:=by rw [<-hW];exact ah (ag w _) (ag _ _)
 have h1:AV w.heap.size 24 ks W:=by rw [<-hW];exact ⟨heap_alloc2_old w _ _⟩
 have h2:AV (w.heap.size+1) 26 ts W:=by rw [<-hW];exact ⟨heap_alloc2_new w _ _⟩
 have h3:=AV.new W (ai bu (.slice none 0 0)) 26;rw [hs] at h3;rw [hW];exact ⟨h1.below (ag W _),h2.below (ag W _),h3,ah hb (ag W _)⟩
theorem SK.grow {w W W':World} {ks ts:Array Value} (h:SK w ks ts W) (hb:Below W.heap.size W W'):SK w ks ts W':=⟨h.k.below hb,h.t.below hb,h.r.below hb,ah h.lo hb⟩
theorem AV.setQ {b:Nat} {t:TypeId} {cs:Array Value} {W:World} (h:AV b t cs W) (o:Nat) (vs:List Value):AV b t (vM cs o vs) (W.setCells b o vs):=⟨wo vs W b o cs t h.var⟩
theorem AV.Qh {b g:Nat} {t:TypeId} {cs:Array Value} {W:World} (h:AV b t cs W) (hn:b≠g) (o:Nat) (vs:List Value):AV b t cs (W.setCells g o vs):=⟨(oq vs W g o b hn).trans h.var⟩
theorem AV.there {b:Nat} {t:TypeId} {cs:Array Value} {W:World} (h:AV b t cs W) (o n:Nat) (hn:o+n<=cs.size):W.there b o n:=fun j hj=>⟨by rw [h.cell (o+j),Array.getElem?_eq_getElem (by omega)];rfl,h.fZ _⟩
theorem Yx (x k s:Int) (w:World) (hk:bits BinOp.and IntKind.u64 (IntKind.u64.wrap k) 31=s) (h0:0<=s) (h1:s<=31):
  Calls Tryz.prog 119 #[.int .u32 x,I k] w fun e w'=>e= .returned (.int .u32 (kX x s))/\w'=w:=by
 have hd:IntKind.u64.wrap (32 - s)=32 - s:=by rw [IntKind.wrap_u64];omega
 go_enter Tryz.func119,Tryz.ntmps119;go_wp2_with fail;go_ret;exact ⟨rfl,rfl⟩
def amt (k:Int):Int:=bits BinOp.and IntKind.u64 (IntKind.u64.wrap k) 31
theorem Ns (x k:Int) (w:World) (h:(decide (0<=amt k)&&decide (amt k<=31))=true):
  Calls Tryz.prog 119 #[.int .u32 x,I k] w fun e w'=>e= .returned (.int .u32 (kX x (amt k)))/\w'=w:=by
 rw [Bool.and_eq_true,decide_eq_true_eq,decide_eq_true_eq] at h;exact Yx x k (amt k) w rfl h.1 h.2
def Q3 (x0 x1 x2 x3:Int):Int:=
 bits BinOp.or IntKind.u32 (bits BinOp.or IntKind.u32 (bits BinOp.or IntKind.u32 (IntKind.u32.wrap (IntKind.u32.wrap x0*16777216)) (IntKind.u32.wrap (IntKind.u32.wrap x1*65536))) (IntKind.u32.wrap (IntKind.u32.wrap x2*256))) (IntKind.u32.wrap x3)
def wIn (xs:List UInt8) (i:Nat):Int:=Q3 (xs[4*i]?.getD 0).toNat (xs[4*i+1]?.getD 0).toNat (xs[4*i+2]?.getD 0).toNat (xs[4*i+3]?.getD 0).toNat
def Dc (a x b y:Int):Int:=
 (a+bits BinOp.xor IntKind.u32 (bits BinOp.xor IntKind.u32 (kX x (amt (-7))) (kX x (amt (-18)))) (x / 8)+b+bits BinOp.xor IntKind.u32 (bits BinOp.xor IntKind.u32 (kX y (amt (-17))) (kX y (amt (-19)))) (y / 1024))%4294967296
def Fj (zs:List Int) (i:Nat):Int:=Dc (zs[i - 16]?.getD 0) (zs[i - 15]?.getD 0) (zs[i - 7]?.getD 0) (zs[i - 2]?.getD 0)
def gW (xs:List UInt8):Nat->List Int
 |0=>List.replicate 64 0
 |i+1=>(gW xs i).set i (if i<16 then wIn xs i else Fj (gW xs i) i)
theorem nT (xs:List UInt8) (i:Nat):(gW xs i).length=64:=by
 induction i with
 |zero=>simp [gW]
 |succ i ih=>simp [gW,ih]
structure KD (w:World) (zs:List Int) (wr:World):Prop where
 var:AV (w.heap.size+1) 190 (aj zs) wr
 res:AV w.heap.size 190 (aj (List.replicate 64 0)) wr
 lo:Below w.heap.size w wr
theorem KD.start (w:World) (xs:List UInt8):KD w (gW xs 0) ((w.alloc (.cells (aj (List.replicate 64 0)) 190)).alloc (.cells (aj (List.replicate 64 0)) 190)):=
 ⟨⟨heap_alloc2_new w _ _⟩,⟨heap_alloc2_old w _ _⟩,((Below.refl _ w).alloc (Nat.le_refl _) _).alloc (by simp) _⟩
theorem KD.drew {w wr:World} {zs:List Int} (h:KD w zs wr):KD w zs wr.drew:=⟨h.var.drew,h.res.drew,h.lo.drew⟩
theorem KD.put {w wr:World} {zs:List Int} (h:KD w zs wr) (i:Nat) (z:Int):KD w (zs.set i z) (wr.setCell ⟨w.heap.size+1,i,none⟩ (.int .u32 z)):=
 ⟨by rw [<-rH];exact h.var.put i _,h.res.far (by omega) _ _,h.lo.setCell (p:=⟨w.heap.size+1,i,none⟩) (Nat.le_succ _) _⟩
theorem KD.drewN {w wr:World} {zs:List Int} (h:KD w zs wr) (n:Nat):KD w zs (wr.drewN n):=⟨⟨h.var.var⟩,⟨h.res.var⟩,⟨h.lo.os,h.lo.tape,h.lo.output,h.lo.size,h.lo.block⟩⟩
theorem GM (w:World) (bb off c:Nat) (xs:List UInt8) (hx:xs.length=64) (hb:bb<w.heap.size) (hA:∀j,j<64->w.cell? ⟨bb,off+j,none⟩=some (Extern.Stop.cell (xs[j]?.getD 0))):
  Calls Tryz.prog 118 #[.slice (some ⟨bb,off,none⟩) 64 c] w fun e w'=>e= .returned (.agg (aj (gW xs 64)))/\Below w.heap.size w w':=by
 have HX:=ae hx;have HA:=ae hA;have H0:=ae (KD.start w xs);clear hx hA;go_enter Tryz.func118,Tryz.ntmps118;go_wp2_with (refine aG rfl _ rfl (aj (List.replicate 64 0)) iV ?_)
 go_loopw [9] (fun i wr=>∃k:Nat,k<=64/\i=I k/\KD w (gW xs k) wr) (fun i _=>64 - (intOf i).toNat)
 case atStart=>exact ⟨0,Nat.zero_le _,rfl,H0.out⟩
 case round=>
  obtain ⟨k,hk,rfl,hs⟩:=hrel;have HS:=ae hs;have hlen:=nT xs k;have HL:=ae hlen;clear H0 hs hlen;by_cases hlt:k<64
  ·have i1:(k:Int)<64:=by omega
   by_cases h16:k<16
   ·have i2:(k:Int)<16:=by omega
    obtain ⟨p,hp⟩:∃p:Nat,4*k=p:=⟨_,rfl⟩;obtain ⟨p1,hp1⟩:∃q:Nat,p+1=q:=⟨_,rfl⟩;obtain ⟨p2,hp2⟩:∃q:Nat,p+2=q:=⟨_,rfl⟩;obtain ⟨p3,hp3⟩:∃q:Nat,p+3=q:=⟨_,rfl⟩;have c0:wr.cell? ⟨bb,off+p,none⟩=some (Extern.Stop.cell (xs[p]?.getD 0)):=(HS.out.lo.cell (p:=⟨bb,off+p,none⟩) hb).trans (HA.out p (by omega));have c1:wr.cell? ⟨bb,off+p1,none⟩=some (Extern.Stop.cell (xs[p1]?.getD 0)):=(HS.out.lo.cell (p:=⟨bb,off+p1,none⟩) hb).trans (HA.out p1 (by omega));have c2:wr.cell? ⟨bb,off+p2,none⟩=some (Extern.Stop.cell (xs[p2]?.getD 0)):=(HS.out.lo.cell (p:=⟨bb,off+p2,none⟩) hb).trans (HA.out p2 (by omega));have c3:wr.cell? ⟨bb,off+p3,none⟩=some (Extern.Stop.cell (xs[p3]?.getD 0)):=(HS.out.lo.cell (p:=⟨bb,off+p3,none⟩) hb).trans (HA.out p3 (by omega));obtain ⟨x0,e0⟩:∃x:Int,((xs[p]?.getD 0).toNat:Int)=x:=⟨_,rfl⟩;obtain ⟨x1,e1⟩:∃x:Int,((xs[p1]?.getD 0).toNat:Int)=x:=⟨_,rfl⟩;obtain ⟨x2,e2⟩:∃x:Int,((xs[p2]?.getD 0).toNat:Int)=x:=⟨_,rfl⟩;obtain ⟨x3,e3⟩:∃x:Int,((xs[p3]?.getD 0).toNat:Int)=x:=⟨_,rfl⟩;replace c0:wr.cell? ⟨bb,off+p,none⟩=some (.int .u8 x0):=c0.trans (by rw [<-e0];rfl);replace c1:wr.cell? ⟨bb,off+p1,none⟩=some (.int .u8 x1):=c1.trans (by rw [<-e1];rfl);replace c2:wr.cell? ⟨bb,off+p2,none⟩=some (.int .u8 x2):=c2.trans (by rw [<-e2];rfl);replace c3:wr.cell? ⟨bb,off+p3,none⟩=some (.int .u8 x3):=c3.trans (by rw [<-e3];rfl);have g0:4*(k:Int)=(p:Int):=by omega
    have g1:(p:Int)+1=(p1:Int):=by omega
    have g2:(p:Int)+2=(p2:Int):=by omega
    have g3:(p:Int)+3=(p3:Int):=by omega
    have w0:IntKind.i64.wrap (p:Int)=(p:Int):=by rw [IntKind.wrap_i64];omega
    have w1:IntKind.i64.wrap (p1:Int)=(p1:Int):=by rw [IntKind.wrap_i64];omega
    have w2:IntKind.i64.wrap (p2:Int)=(p2:Int):=by rw [IntKind.wrap_i64];omega
    have w3:IntKind.i64.wrap (p3:Int)=(p3:Int):=by rw [IntKind.wrap_i64];omega
    have b0:(p:Int)<64:=by omega
    have b1:(p1:Int)<64:=by omega
    have b2:(p2:Int)<64:=by omega
    have b3:(p3:Int)<64:=by omega
    have HE:=ae (And.intro (And.intro e0 e1) (And.intro e2 e3));have HP:=ae (And.intro hp (And.intro hp1 (And.intro hp2 hp3)));clear e0 e1 e2 e3 hp hp1 hp2 hp3;obtain ⟨z0,hz0⟩:∃z,(gW xs k)[k]?.getD 0=z:=⟨_,rfl⟩;have hv:wr.cell? ⟨w.heap.size+1,k,none⟩=some (.int .u32 z0):=(HS.out.var.cell k).trans (by rw [bU _ _ (by rw [HL.out];exact hlt),hz0]);have hf:=HS.out.var.fZ k;clear hz0;have HN:Hid (KD w (gW xs (k+1)) (wr.drew.setCell ⟨w.heap.size+1,k,none⟩ (.int .u32 (Q3 x0 x1 x2 x3)))):=ae (by
     have h:=HS.out.drew.put k (Q3 x0 x1 x2 x3);have e:Q3 x0 x1 x2 x3=wIn xs k:=by
      obtain ⟨⟨e0,e1⟩,e2,e3⟩:=HE.out;obtain ⟨q0,q1,q2,q3⟩:=HP.out;unfold wIn;rw [q0,q1,q2,q3,e0,e1,e2,e3]
     unfold gW;rw [if_pos h16];rw [e] at h ⊢;exact h)
    go_wp2_with fail;go_still_tail 35,(by kernel_rfl);change wpList _ _ _ _ _ wr.drew;go_wp2_with fail;go_roundw
    case rel=>exact ⟨k+1,by omega,by go_num,HN.out⟩
    case measure=>simp [intOf];omega
   ·have i2:¬(k:Int)<16:=by omega
    obtain ⟨q16,Ue⟩:∃q:Nat,k - 16=q:=⟨_,rfl⟩;obtain ⟨Nq,Ud⟩:∃q:Nat,k - 15=q:=⟨_,rfl⟩;obtain ⟨q7,hq7⟩:∃q:Nat,k - 7=q:=⟨_,rfl⟩;obtain ⟨q2,hq2⟩:∃q:Nat,k - 2=q:=⟨_,rfl⟩;obtain ⟨za,hza⟩:∃z,(gW xs k)[q16]?.getD 0=z:=⟨_,rfl⟩;obtain ⟨zx,hzx⟩:∃z,(gW xs k)[Nq]?.getD 0=z:=⟨_,rfl⟩;obtain ⟨zb,hzb⟩:∃z,(gW xs k)[q7]?.getD 0=z:=⟨_,rfl⟩;obtain ⟨zy,hzy⟩:∃z,(gW xs k)[q2]?.getD 0=z:=⟨_,rfl⟩;obtain ⟨z0,hz0⟩:∃z,(gW xs k)[k]?.getD 0=z:=⟨_,rfl⟩;have hv:wr.cell? ⟨w.heap.size+1,k,none⟩=some (.int .u32 z0):=(HS.out.var.cell k).trans (by rw [bU _ _ (by rw [HL.out];exact hlt),hz0]);have va:wr.cell? ⟨w.heap.size+1,q16,none⟩=some (.int .u32 za):=(HS.out.var.cell q16).trans (by rw [bU _ _ (by rw [HL.out];omega),hza]);have vx:wr.cell? ⟨w.heap.size+1,Nq,none⟩=some (.int .u32 zx):=(HS.out.var.cell Nq).trans (by rw [bU _ _ (by rw [HL.out];omega),hzx]);have vb:wr.cell? ⟨w.heap.size+1,q7,none⟩=some (.int .u32 zb):=(HS.out.var.cell q7).trans (by rw [bU _ _ (by rw [HL.out];omega),hzb]);have vy:wr.cell? ⟨w.heap.size+1,q2,none⟩=some (.int .u32 zy):=(HS.out.var.cell q2).trans (by rw [bU _ _ (by rw [HL.out];omega),hzy]);have hf:=HS.out.var.fZ k;have g16:(k:Int) - 16=(q16:Int):=by omega
    have g15:(k:Int) - 15=(Nq:Int):=by omega
    have g7:(k:Int) - 7=(q7:Int):=by omega
    have g2:(k:Int) - 2=(q2:Int):=by omega
    have b16:(q16:Int)<64:=by omega
    have b15:(Nq:Int)<64:=by omega
    have b7:(q7:Int)<64:=by omega
    have b2:(q2:Int)<64:=by omega
    have w16:IntKind.i64.wrap (q16:Int)=(q16:Int):=by rw [IntKind.wrap_i64];omega
    have w15:IntKind.i64.wrap (Nq:Int)=(Nq:Int):=by rw [IntKind.wrap_i64];omega
    have w7:IntKind.i64.wrap (q7:Int)=(q7:Int):=by rw [IntKind.wrap_i64];omega
    have w2:IntKind.i64.wrap (q2:Int)=(q2:Int):=by rw [IntKind.wrap_i64];omega
    have HZ:=ae (And.intro (And.intro hza hzx) (And.intro hzb hzy));have HP:=ae (And.intro Ue (And.intro Ud (And.intro hq7 hq2)));clear hz0 hza hzx hzb hzy Ue Ud hq7 hq2;go_wp2_with fail;go_quiet (fail);obtain ⟨W2,hW2⟩:∃W,wr.drewN nq=W:=⟨_,rfl⟩;have HS2:Hid (KD w (gW xs k) W2):=ae (by rw [<-hW2];exact HS.out.drewN nq);replace hv:W2.cell? ⟨w.heap.size+1,k,none⟩=some (.int .u32 z0):=by rw [<-hW2];exact hv
    replace va:W2.cell? ⟨w.heap.size+1,q16,none⟩=some (.int .u32 za):=by rw [<-hW2];exact va
    replace vb:W2.cell? ⟨w.heap.size+1,q7,none⟩=some (.int .u32 zb):=by rw [<-hW2];exact vb
    replace hf:=HS2.out.var.fZ k;rw [hW2];have HN:Hid (KD w (gW xs (k+1)) (W2.drew.setCell ⟨w.heap.size+1,k,none⟩ (.int .u32 (Dc za zx zb zy)))):=ae (by
     have h:=HS2.out.drew.put k (Dc za zx zb zy);have e:Dc za zx zb zy=Fj (gW xs k) k:=by
      obtain ⟨⟨e0,e1⟩,e2,e3⟩:=HZ.out;obtain ⟨q0,q1,q2,q3⟩:=HP.out;unfold Fj;rw [q0,q1,q2,q3,e0,e1,e2,e3]
     unfold gW;rw [if_neg h16];rw [e] at h ⊢;exact h)
    clear hW2 vx vy;go_wp2_with (go_at_call 119;refine (Ns _ _ _ (by kernel_rfl)).mono ?_;rintro e wq ⟨rfl,hwq⟩;have hwq:=hwq.symm;subst hwq);go_still_tail 15,(by kernel_rfl);change wpList _ _ _ _ _ W2.drew;go_wp2_with fail;go_roundw
    case rel=>exact ⟨k+1,by omega,by go_num,HN.out⟩
    case measure=>simp [intOf];omega
  ·have hke:k=64:=by omega
   subst hke;have HRW:Hid (gK wr (w.heap.size+1) (aj (gW xs 64))):=ae ⟨HS.out.var.lt,HS.out.var.cell⟩;have dU:Hid ((Tryz.prog.info? 190).map (·.size)=some (aj (gW xs 64)).size):=ae (by rw [aW,HL.out];kernel_rfl);have lg:Hid ((aj (List.replicate 64 0)).size=(aj (gW xs 64)).size):=ae (by rw [aW,aW,HL.out];simp);go_wp2_with (first
    |(refine aP rfl _ _ rfl (w.heap.size+1) rfl (aj (gW xs 64)) HRW.out _ Tryz.underlying190 rfl dU.out ?_)
    |(refine wpList_store_row rfl _ _ _ rfl w.heap.size (aj (gW xs 64)) rfl rfl 190 (aj (List.replicate 64 0)) HS.out.res.var dU.out lg.out (bQ _) ?_))
   refine bodyPost_ret (v:= .agg (aj (gW xs 64))) (results_cell_row rfl _ _ w.heap.size _ (aj (gW xs 64)) (0,0) _ rfl (setRow_heap _ _ _ _ _ _ HS.out.res.var) Tryz.underlying190 rfl dU.out) rfl ?_;exact ⟨rfl,aB HS.out.lo (Nat.le_refl _) _⟩
end Go.Proofs.YtbaehbbonkljpaaGreatDoor
