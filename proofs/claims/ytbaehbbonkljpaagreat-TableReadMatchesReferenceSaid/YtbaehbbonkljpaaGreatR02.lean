/- The texts TrN, Ps, TrL, SvE, SvF, TbD, TbZ, TbE, TbW, in this order. -/
import Derived.Test.YtbaehbbonkljpaaGreatR00
import Derived.Lib.ByteType
import Derived.Lib.AppendStr
import Derived.Test.YtbaehbbonkljpaaGreatR01
set_option maxRecDepth 10000
set_option maxHeartbeats 8000000
namespace Go.Proofs.YtbaehbbonkljpaaGreat
open Go Go.RowKit Go.Shelf
attribute [local go_sem] Oper.semAt_some
structure jZ (w:World) (pb:Nat) (t:TypeId) (cs:Array Value) (W:World):Prop where
 os:W.os=w.os
 tape:W.tape=w.tape
 output:W.output=w.output
 size:w.heap.size≤W.heap.size
 block:∀k,k<w.heap.size→k≠pb→W.heap[k]? =w.heap[k]?
 tgt:W.heap[pb]? =some (.cells cs t (0,0))
 lt:pb<w.heap.size
theorem jZ.grow {w W W':World} {pb:Nat} {t:TypeId} {cs:Array Value} (h:jZ w pb t cs W) (hb:Below W.heap.size W W'):jZ w pb t cs W':=
 ⟨hb.os.trans h.os,hb.tape.trans h.tape,hb.output.trans h.output,Nat.le_trans h.size hb.size,fun k hk hp=>(hb.block k (dW hk h.size)).trans (h.block k hk hp),(hb.block pb (dW h.lt h.size)).trans h.tgt,h.lt⟩
theorem jZ.put {w W:World} {pb:Nat} {t:TypeId} {cs:Array Value} (h:jZ w pb t cs W) (o:Nat) (v:Value):jZ w pb t (cs.setIfInBounds o v) (W.setCell ⟨pb,o,none⟩ v):=
 ⟨h.os,h.tape,h.output,by simpa [World.setCell] using h.size,fun k hk hp=>(heap_setCell_other W _ k v hp).trans (h.block k hk hp),heap_setCell_same W pb o _ _ _ h.tgt,h.lt⟩
theorem jZ.drew {w W:World} {pb:Nat} {t:TypeId} {cs:Array Value} (h:jZ w pb t cs W):jZ w pb t cs W.drew:=⟨h.os,h.tape,h.output,h.size,h.block,h.tgt,h.lt⟩
theorem jZ.cell {w W:World} {pb:Nat} {t:TypeId} {cs:Array Value} (h:jZ w pb t cs W) (i:Nat):W.cell? ⟨pb,i,none⟩=cs[i]? :=cell_of_row W pb i _ _ _ h.tgt
theorem jZ.eY {w W:World} {pb:Nat} {t:TypeId} {cs:Array Value} (h:jZ w pb t cs W) (i:Nat):W.frozen? ⟨pb,i,none⟩=false:=frozen_of_row W pb i _ _ h.tgt
theorem X3 {β:Type} {w:World} {pb B:Nat} {t:TypeId} (f:β→Array Value) (hB:w.heap.size≤B):OwnFrom B (fun s W=>jZ w pb t (f s) W):=
 fun s W W' row hs hg hr=>⟨hg.os.trans hs.os,hg.tape.trans hs.tape,hg.output.trans hs.output,Nat.le_trans hs.size hg.size,
  fun k hk hp=>(hg.block k (dW hk hs.size) (fun e=>by have:=(hr k e.symm).1;omega)).trans (hs.block k hk hp),
  (hg.block pb (dW hs.lt hs.size) (fun e=>by have:=(hr pb e.symm).1;have:=hs.lt;omega)).trans hs.tgt,hs.lt⟩
structure bI (w:World) (rb pb:Nat) (t:TypeId) (cs:Array Value) (w':World):Prop where
 os:w'.os=w.os
 tape:w'.tape=w.tape
 output:w'.output=w.output
 size:w.heap.size≤w'.heap.size
 block:∀k,k<w.heap.size→k≠pb→k≠rb→w'.heap[k]? =w.heap[k]?
 tgt:w'.heap[pb]? =some (.cells cs t (0,0))
theorem UD {w w2 W:World} {M pb po B:Nat} {t:TypeId} {cs:Array Value} {pre:List (Nat×UInt8)} {xi:Nat} {xc:UInt8} {v u:Int} (pq:M≤pb) (hpb:pb<w.heap.size) (hw2:w.heap.size<w2.heap.size)
  (hbx:Boxed W w.heap.size 112 (.pointer (some ⟨pb,po,none⟩))) (hB:jZ w2 pb t (cs.setIfInBounds po (I (vK pre))) W) (hu:vK pre=u) (hv:v=yt u xc):
  KeepsFrom B W (W.setCell ⟨pb,po,none⟩ (I v)).drew∧BK M w2.heap.size W (W.setCell ⟨pb,po,none⟩ (I v)).drew∧Boxed (W.setCell ⟨pb,po,none⟩ (I v)).drew w.heap.size 112 (.pointer (some ⟨pb,po,none⟩))∧jZ w2 pb t (cs.setIfInBounds po (I (vK (pre++ [(xi,xc)])))) (W.setCell ⟨pb,po,none⟩ (I v)).drew:=by
 have hk:KeepsOthers W (W.setCell ⟨pb,po,none⟩ (I v)):=KeepsOthers.setCell _ _ _;have hk2:KeepsOthers W (W.setCell ⟨pb,po,none⟩ (I v)).drew:=⟨hk.size,hk.same⟩;refine ⟨hk2.from _,⟨((Below.refl M W).setCell (p:=⟨pb,po,none⟩) pq _).drew,?_⟩,?_,?_⟩
 ·exact World.cell?_of_block (a:=⟨w2.heap.size,0,none⟩) (heap_setCell_other W _ _ _ (by show w2.heap.size≠pb;omega))
 ·exact (heap_setCell_other W _ _ _ (by show w.heap.size≠pb;omega)).trans hbx
 ·have h:=hB.put po (I v);rw [Array.setIfInBounds_setIfInBounds] at h;rw [Qc,hu,←hv];exact h.drew
def TNum (M:Nat) (w:World) (rb pb po:Nat) (t:TypeId) (cs:Array Value) (rest:List UInt8) (size:Nat) (e:Ending) (w':World):Prop:=
 e= .returned (.tuple #[])∧jH M w' rb (rest.drop size)∧bI w rb pb t (cs.setIfInBounds po (I (Cj rest false size))) w'
theorem wS (M:Nat) (w:World) (rb pb po size:Nat) (t:TypeId) (cs:Array Value) (rest:List UInt8) (hr:jH M w rb rest) (h8:size≤8) (hn:size≤rest.length) (hp:w.heap[pb]? =some (.cells cs t (0,0))) (hpo:po<cs.size) (pq:M≤pb) (hne:pb≠rb):
  Calls Tryz.prog 165 #[pt rb, .pointer (some ⟨pb,po,none⟩),I size] w (TNum M w rb pb po t cs rest size):=by
 refine (callsIn_wide (n:=3)).1 ?_;have hro:Fence.wide.round=none:=rfl;have h1:1≤3:=by omega
 have hlt:=hr.lt;have hpl:pb<w.heap.size:=(bK.1 hp).1;have hMl:=hr.lo;have hc0:w.cell? ⟨pb,po,none⟩=some cs[po]:=by rw [cell_of_row w pb po _ _ _ hp];exact Array.getElem?_eq_getElem hpo
 have hf0:w.frozen? ⟨pb,po,none⟩=false:=frozen_of_row w pb po _ _ hp;obtain ⟨WS,hWS⟩:∃W,w.setCell ⟨pb,po,none⟩ (I 0)=W:=⟨_,rfl⟩;have hsS:WS.heap.size=w.heap.size:=by rw [←hWS];simp [World.setCell]
 have hTS:jZ w pb t (cs.setIfInBounds po (I 0)) WS:=by
  rw [←hWS];exact ⟨rfl,rfl,rfl,by simp [World.setCell],fun k _ hk2=>heap_setCell_other _ _ k _ hk2,heap_setCell_same _ pb po _ _ _ hp,hpl⟩
 obtain ⟨W1,hW1⟩:∃W,WS.alloc (.cells #[.pointer (some ⟨pb,po,none⟩)] 112)=W:=⟨_,rfl⟩;have hs1:W1.heap.size=w.heap.size+1:=by rw [←hW1];simp [hsS]
 have hT1:jZ w pb t (cs.setIfInBounds po (I 0)) W1:=by rw [←hW1];exact hTS.grow (ag WS _)
 have Zg:Boxed W1 w.heap.size 112 (.pointer (some ⟨pb,po,none⟩)):=by
  rw [←hW1,←hsS];exact Boxed.new WS 112 (.pointer (some ⟨pb,po,none⟩))
 rw [←hWS] at hW1;have hr1:jH M W1 rb rest:=hr.of (hT1.block rb hlt (fun e=>hne e.symm)) fun k hk=>hT1.block k (by omega) (by omega);have HT0:=vI M W1 rb size rest hr1 hn;obtain ⟨bs,hbs⟩:∃bs,rest.take size=bs:=⟨_,rfl⟩;have hbl:bs.length=size:=by rw [←hbs,List.length_take];omega
 unfold GotT at HT0;rw [hbs] at HT0;have hrd:Cj rest false size=vK (upto (bk bs) bs.length):=by
  have e1:tkB rest false size=false:=by unfold tkB;simp;omega
  unfold Cj tk;rw [e1];simp only [Bool.false_eq_true,if_false,hbs]
 have HL:=ae hbl;have Vr:=ae hrd;have HT:=ae HT0;have HT1:=ae hT1;have HBOX:=ae Zg;have HW1:=ae hW1;have HP:=ae hp;clear hr hr1 HT0 hbs hbl hrd hT1 Zg hW1 hWS hsS hTS hp;refine callsIn_of_wp_marks Tryz.func165 rfl trivial ?_ hro;simp only [Tryz.ntmps165,List.size_toArray,List.length_cons,List.length_nil,Nat.reduceAdd,Nat.reduceSub,Array.replicate_succ,Array.replicate_zero,List.push_toArray,List.append_toArray,List.nil_append,List.cons_append]
 gi_wp2_with first
  |(refine ⟨trivial,?_⟩;gi_at_call 168;rw [HW1.out];refine (callsIn_wide.2 HT.out).mono ?_;rintro e w2 ⟨bb,off,c,rfl,hcl,hcc,hbM,hby,hrs,hk⟩;have DF:=ae hby;have Nl:=ae hrs;have HK:=ae hk;clear hby hrs hk)
  |(refine ⟨trivial,?_⟩;gi_at_call 169;refine (WC Fence.wide 2 trivial hro _ _ _ _).mono ?_;rintro e w' ⟨rfl,rfl⟩)
 have hsk:=HK.out.size;have hT2:jZ w2 pb t (cs.setIfInBounds po (I 0)) w2:=⟨rfl,rfl,rfl,Nat.le_refl _,fun _ _ _=>rfl,(HK.out.block pb (by omega) hne).trans HT1.out.tgt,by omega⟩;have Zh:Boxed w2 w.heap.size 112 (.pointer (some ⟨pb,po,none⟩)):=(HK.out.block w.heap.size (by omega) (by omega)).trans HBOX.out;have hB1:Below w.heap.size w2 (w2.alloc (.cells #[.slice (some ⟨bb,off,none⟩) size c] 22)):=((Below.refl _ w2).alloc (Nat.le_refl _) _).mono (by omega);have hby1:BytesAt (w2.alloc (.cells #[.slice (some ⟨bb,off,none⟩) size c] 22)) M (some ⟨bb,off,none⟩) bs:= .inr ⟨bb,off,rfl,hbM,fun j hj=>(hB1.cell (p:=⟨bb,off+j,none⟩) (by show bb<w.heap.size;omega)).trans (DF.out j (by have:=HL.out;omega))⟩;have bN:=Boxed.new w2 22 (.slice (some ⟨bb,off,none⟩) size c);have hcl2:(w2.alloc (.cells #[.slice (some ⟨bb,off,none⟩) size c] 22)).cell? ⟨w2.heap.size,0,none⟩=some (.slice (some ⟨bb,off,none⟩) size c):=bN.cell;have hst:=Kw Fence.wide (3 - 1) trivial hro (by omega) w2.heap.size M (some ⟨bb,off,none⟩) c bs (by have:=HL.out;omega) (w2.alloc (.cells #[.slice (some ⟨bb,off,none⟩) size c] 22)) (by simp) (by simp;omega) (by rw [HL.out];exact hcl2) hby1;have hI0:jZ w2 pb t (cs.setIfInBounds po (I 0)) (w2.alloc (.cells #[.slice (some ⟨bb,off,none⟩) size c] 22)):=hT2.grow (ag w2 _);refine wpIn_rangeFunc_ownG hro h1 (gf:=170) (lb:= #[.pointer (some ⟨w2.heap.size,0,none⟩)]) rfl trivial (enters_of Tryz.func170 (by kernel_rfl) rfl)
  hst (fun h k=>h.trans k) (bk_b (by simp;omega) (by simp)) (Below.refl _ _) (fun _=>rfl)
  (fun pre W=>Boxed W w.heap.size 112 (.pointer (some ⟨pb,po,none⟩))∧jZ w2 pb t (cs.setIfInBounds po (I (vK pre))) W)
  (fun _ _ _=>False)
  (OwnFrom.and (Own.from (boxed_own _ _ _) _) (X3 _ (by simp)))
  (fun _ _ _ _ _ hs _ _=>hs)
  ⟨Zh.alloc _,hI0⟩
  (fun x=> {tmps:= #[pt rb, .pointer (some ⟨pb,po,none⟩),I size,undef, .pointer (some ⟨w.heap.size,0,none⟩),undef,undef,Extern.Stop.cell x.2, .pointer (some ⟨pb,po,none⟩), .pointer (some ⟨pb,po,none⟩),pt rb,I size, .slice (some ⟨bb,off,none⟩) size c, .func (.func 170) #[] #[.pointer (some ⟨w2.heap.size,0,none⟩)], .int .i64 (x.1:Int),Extern.Stop.cell x.2,undef,undef,undef,undef,undef,undef,undef,undef,undef],defers:= []}) ?assign ?body ?done ?stop
 case assign=>
  intro l x W K hK
  gi_wp2
  exact hK
 case body=>
  rintro l pre ⟨xi,xc⟩ W ⟨hbx,hB⟩ _;have hc:=hbx.cell;have hx1:(xc.toNat:Int)<256:=by have:=xc.toNat_lt;omega
  have hx2:(0:Int)≤xc.toNat:=by omega
  simp only [Extern.Stop.cell];have hcp:W.cell? ⟨pb,po,none⟩=some (I (vK pre)):=(hB.cell po).trans (by simp [hpo]);have hfp:=hB.eY po;have HBX:=ae hbx;have HBB:=ae hB;have hwl:w.heap.size<w2.heap.size:=by omega
  obtain ⟨u,hu⟩:∃u,vK pre=u:=⟨_,rfl⟩;rw [hu] at hcp;have HU:=ae hu;have HV:Hid (bits BinOp.or IntKind.i64 (IntKind.i64.wrap (u*256)) xc.toNat=yt u xc):=ae (by unfold yt;rw [show IntKind.i64.wrap (u*256)=wrap64 (u*256) from by rw [IntKind.wrap_i64];unfold wrap64;omega]);have hxw:IntKind.i64.wrap (xc.toNat:Int)=(xc.toNat:Int):=by rw [IntKind.wrap_i64];omega
  clear hbx hB hT2 Zh hB1 hby1 bN hcl2 hst hI0 hc0 hf0 hu DF Nl HT HT1 HBOX HW1 HP Vr HL
  gi_wp2
  gi_region
  all_goals exact UD pq hpl hwl HBX.out HBB.out HU.out HV.out
 case done=>
  rintro D ys W hD rfl ⟨hbx,hB⟩ hK;have hc:=hbx.cell
  gi_wp2
  refine ⟨by simp, .inl ⟨_,_,rfl,run_takeDeferred hK,?_⟩⟩;refine ⟨.tuple #[],by simp [results,Tryz.results165],?_⟩;have hD2:w2.heap.size+1≤D:=by simpa using hD
  have hpo:∀k,k<w2.heap.size→(W.putObj D (.deferred none)).heap[k]? =W.heap[k]? :=fun k hk=>World.putObj_heap_other (by omega);refine ⟨rfl,Nl.out.of ((hpo rb (by omega)).trans (hB.block rb (by omega) (fun e=>hne e.symm))) (fun k hk=>(hpo k (by omega)).trans (hB.block k (by omega) (by omega))),?_⟩;rw [Vr.out];have hT1:=HT1.out;refine ⟨hB.os.trans (HK.out.os.trans hT1.os),hB.tape.trans (HK.out.tape.trans hT1.tape),hB.output.trans (HK.out.output.trans hT1.output),?_,fun k hk h2 h3=>?_,?_⟩
  ·have h1:=hB.size;simp only [World.putObj,Array.size_setIfInBounds];omega
  ·exact (hpo k (by omega)).trans ((hB.block k (by omega) h2).trans ((HK.out.block k (by omega) h3).trans (hT1.block k hk h2)))
  ·refine (hpo pb (by omega)).trans ?_;exact hB.tgt
 case stop=>
  rintro D c pre W _ _ h _;exact h.elim
end Go.Proofs.YtbaehbbonkljpaaGreat
namespace Go.Proofs.YtbaehbbonkljpaaGreat
open Go Go.RowKit
theorem yu (w:World) (base:Nat) (ty:TypeId) (v:Value) (n:Nat) (xs:List Value) (hown:w.ownsRow base 5 1 v n xs) (s:ByteArray) (hlen:n+s.size≤1000000000000) (hbase:base≤w.heap.size):
  ∃v' w',(Builtin.append_ #[22,9] ty #[v, .string s]).run Tryz.prog w= .ok v' w'∧w'.ownsRow base 5 1 v' (n+s.size) (xs++Lib.strCells s)∧w.grownBy w' v.ownBlock∧(v'.ownBlock=v.ownBlock∨v'.ownBlock=some w.heap.size):=by
 obtain ⟨i0,hi,hz0,hz1,hz2⟩:=info_parts lh;obtain ⟨v',w',hr,h2,h3,h4⟩:=Lib.run_append_own_string (P:=Tryz.prog) w base 22 9 ty 5 i0 Tryz.underlying22 Tryz.underlying9 hi hz0 hz1 hz2 v n xs hown s (by unfold maxLen;omega) (by omega) hbase;refine ⟨v',w',hr,h2,h3,?_⟩;have hxl:xs.length=n:=by simpa using hown.1
 rcases hown.2 with ⟨rfl,rfl⟩|⟨g,cap,cur,rfl,hbg,hg,hnc,hcm,hcs,htake⟩
 ·by_cases h0:s.size=0
  ·left;rw [h4.2 ⟨rfl,h0⟩]
  ·right;have hr':=run_append_nil_string (P:=Tryz.prog) w 22 9 ty 5 i0 (.int .u8 0) Tryz.underlying22 Tryz.underlying9 hi hz0 s (by omega) (by omega) (by rw [hz2];omega);rw [hr] at hr';injection hr' with hv _;rw [hv];rfl
 ·by_cases hroom:n+s.size≤cap
  ·left;have hr':=Lib.run_append_room_string (P:=Tryz.prog) w 22 9 ty 5 i0 Tryz.underlying22 Tryz.underlying9 hi hz1 g n cap cur hg s hroom (by omega);rw [hr] at hr';injection hr' with hv _;rw [hv];rfl
  ·right;have holds:∀j u,xs[j]? =some u→w.cell? ((⟨g,0,none⟩:Addr).add j)=some u:=hown.cells (g:=g) rfl;have hr':=Lib.run_append_grow_string (P:=Tryz.prog) w 22 9 ty 5 i0 (.int .u8 0) Tryz.underlying22 Tryz.underlying9 hi hz0 ⟨g,0,none⟩ n cap xs (by rw [hz1];omega) holds s (by omega) (by omega) (by rw [hz2];exact growslice_fits (by omega) (by omega));rw [hr] at hr';injection hr' with hv _;rw [hv];rfl
theorem BP {ops:Array Oper} {rest:List Oper} {o:Oper} {a:Act} {Q:Exit→Act→World→Prop} {w:World} (hgd:o.guard=none) (sl x:Operand)
  (ho:o.op= .call {callee:= .builtin .append,args:= #[sl,x],argTypes:= #[22,9]}) (base:Nat) (v:Value) (n:Nat) (xs:List Value) (hs:a.eval sl=v) (hown:w.ownsRow base 5 1 v n xs) (s:ByteArray) (hx:a.eval x= .string s)
  (hlen:n+s.size≤1000000000000) (hbase:base≤w.heap.size)
  (h:∀v' w',w'.ownsRow base 5 1 v' (n+s.size) (xs++Lib.strCells s)→w.grownBy w' v.ownBlock→(v'.ownBlock=v.ownBlock∨v'.ownBlock=some w.heap.size)→wpList Tryz.prog ops Q rest (a.put o.dst v') w'):wpList Tryz.prog ops Q (o::rest) a w:=by
 refine wpList_plain hgd fun K hK=>?_;obtain ⟨v',w',hr,h2,h3,h4⟩:=yu w base o.type v n xs hown s hlen hbase;unfold Oper.wp execOp;simp only [ho,resolve,invoke,builtin,Sem.run_bind,Sem.run_pure,Result.andThen_ok,List.map_toArray,List.map_cons,List.map_nil,hs,hx,hr];exact hK _ _ (h v' w' h2 h3 h4)
theorem FP {ops:Array Oper} {o:Oper} {a:Act} {Q:Exit→Act→World→Prop} {K:Act→World→Prop} {E:Prop} {w:World} (hgd:o.guard=none) (sl x:Operand)
  (ho:o.op= .call {callee:= .builtin .append,args:= #[sl,x],argTypes:= #[22,9]}) (base:Nat) (v:Value) (n:Nat) (xs:List Value) (hs:a.eval sl=v) (hown:w.ownsRow base 5 1 v n xs) (s:ByteArray) (hx:a.eval x= .string s)
  (hlen:n+s.size≤1000000000000) (hbase:base≤w.heap.size) (hpos:0<n+s.size)
  (h:∀g' cap' w',w'.ownsRow base 5 1 (.slice (some ⟨g',0,none⟩) (n+s.size) cap') (n+s.size) (xs++Lib.strCells s)→w.grownBy w' v.ownBlock→((Value.slice (some ⟨g',0,none⟩) (n+s.size) cap').ownBlock=v.ownBlock∨(Value.slice (some ⟨g',0,none⟩) (n+s.size) cap').ownBlock=some w.heap.size)→K (a.put o.dst (.slice (some ⟨g',0,none⟩) (n+s.size) cap')) w'):if Region.wanted o (yielded ops a.tmps)=true then Oper.wp Tryz.prog o a w K Q else E:=by
 have hw:Region.wanted o (yielded ops a.tmps)=true:=by simp [Region.wanted,hgd]
 rw [if_pos hw];obtain ⟨v',w',hr,h2,h3,h4⟩:=yu w base o.type v n xs hown s hlen hbase;obtain ⟨g',cap',rfl,_⟩:=fM h2 hpos;unfold Oper.wp execOp;simp only [ho,resolve,invoke,builtin,Sem.run_bind,Sem.run_pure,Result.andThen_ok,List.map_toArray,List.map_cons,List.map_nil,hs,hx,hr];exact h _ _ _ h2 h3 h4
theorem yj (w:World) (bb off c:Nat) (s:ByteArray) (h:∀j,j<s.size→w.cell? ⟨bb,off+j,none⟩=some (Extern.Stop.cell (s.data.toList[j]?.getD 0))):
  (convert 22 9 (.slice (some ⟨bb,off,none⟩) s.size c)).run Tryz.prog w= .ok (.string s) w:=by
 have e:strOfNums (s.data.toList.map fun (b:UInt8)=>((b.toNat:Nat):Int))=s:=by
  unfold strOfNums;rw [List.map_map];have:((fun n:Int=>UInt8.ofNat n.toNat) ∘ fun (b:UInt8)=>((b.toNat:Nat):Int))=id:=by
   funext b;simp
  rw [this,List.map_id]
 have hl:s.data.toList.length=s.size:=Array.length_toList;have hr:=run_convert_bytes_arg (P:=Tryz.prog) w 22 5 Tryz.underlying22 Tryz.underlying5 bb off s.size c (s.data.toList.map fun (b:UInt8)=>((b.toNat:Nat):Int)) (by rw [List.length_map,hl]) (fun i hi=>by
  rw [h i hi];have hx:s.data.toList[i]? =some s.data.toList[i]:=bZ (by omega);rw [hx,List.getD_eq_getElem?_getD,List.getElem?_map,hx];rfl) 9 Tryz.underlying9
 rw [e] at hr;exact hr
theorem bI.trans {w w1 w2:World} {rb pb:Nat} {t:TypeId} {cs cs2:Array Value} (h:bI w rb pb t cs w1) (k:bI w1 rb pb t cs2 w2):bI w rb pb t cs2 w2:=
 ⟨k.os.trans h.os,k.tape.trans h.tape,k.output.trans h.output,Nat.le_trans h.size k.size,fun b hb h1 h2=>(k.block b (dW hb h.size) h1 h2).trans (h.block b hb h1 h2),k.tgt⟩
theorem bI.refl {w:World} {rb pb:Nat} {t:TypeId} {cs:Array Value} (h:w.heap[pb]? =some (.cells cs t (0,0))):bI w rb pb t cs w:=⟨rfl,rfl,rfl,Nat.le_refl _,fun _ _ _ _=>rfl,h⟩
theorem bI.qg {w w1 w2:World} {rb pb:Nat} {t:TypeId} {cs:Array Value} (h:bI w rb pb t cs w1) (hk:dA rb w1 w2) (hl:pb<w1.heap.size) (hne:pb≠rb):bI w rb pb t cs w2:=
 ⟨hk.os.trans h.os,hk.tape.trans h.tape,hk.output.trans h.output,Nat.le_trans h.size hk.size,fun b hb h1 h2=>(hk.block b (dW hb h.size) h2).trans (h.block b hb h1 h2),(hk.block pb hl hne).trans h.tgt⟩
theorem bI.grow {w w1 w2:World} {rb pb:Nat} {t:TypeId} {cs:Array Value} (h:bI w rb pb t cs w1) (hb:Below w1.heap.size w1 w2) (hl:pb<w1.heap.size) (hne:pb≠rb):bI w rb pb t cs w2:=h.qg (dA.of_below hb) hl hne
theorem bI.put {w w1:World} {rb pb:Nat} {t:TypeId} {cs:Array Value} (h:bI w rb pb t cs w1) (o:Nat) (v:Value):bI w rb pb t (cs.setIfInBounds o v) (w1.setCell ⟨pb,o,none⟩ v):=
 ⟨h.os,h.tape,h.output,by simpa [World.setCell] using h.size,fun b hb h1 h2=>(heap_setCell_other w1 _ b v h1).trans (h.block b hb h1 h2),heap_setCell_same w1 pb o _ _ _ h.tgt⟩
theorem bI.drew {w w1:World} {rb pb:Nat} {t:TypeId} {cs:Array Value} (h:bI w rb pb t cs w1):bI w rb pb t cs w1.drew:=⟨h.os,h.tape,h.output,h.size,h.block,h.tgt⟩
theorem bI.bQ {w w1:World} {rb pb:Nat} {t:TypeId} {cs:Array Value} (h:bI w.drew rb pb t cs w1):bI w rb pb t cs w1:=⟨h.os,h.tape,h.output,h.size,h.block,h.tgt⟩
theorem bI.cell {w w1:World} {rb pb:Nat} {t:TypeId} {cs:Array Value} (h:bI w rb pb t cs w1) (i:Nat):w1.cell? ⟨pb,i,none⟩=cs[i]? :=cell_of_row w1 pb i _ _ _ h.tgt
theorem bI.eY {w w1:World} {rb pb:Nat} {t:TypeId} {cs:Array Value} (h:bI w rb pb t cs w1) (i:Nat):w1.frozen? ⟨pb,i,none⟩=false:=frozen_of_row w1 pb i _ _ h.tgt
theorem jH.put {M pb o:Nat} {w:World} {rb:Nat} {rest:List UInt8} (h:jH M w rb rest) (hp:M≤pb) (hne:pb≠rb) (v:Value):jH M (w.setCell ⟨pb,o,none⟩ v) rb rest:=
 h.of (heap_setCell_other w _ rb v (fun e=>hne e.symm)) fun k hk=>heap_setCell_other w _ k v (by show k≠pb;omega)
def Rk (M:Nat) (w:World) (rb pb po:Nat) (t:TypeId) (cs:Array Value) (n:Int) (R:List UInt8) (e:Ending) (w':World):Prop:=
 e= .returned (.tuple #[])∧jH M w' rb R∧bI w rb pb t (cs.setIfInBounds po (I n)) w'
theorem hvs2 (x:Int):wrap64 (hvs 0 (upto (bk (le x 2)) 2))=x%65536:=by
 have e:hvs 0 (upto (bk (le x 2)) 2)=((0*256+((byteOf (x / 256)).toNat:Int))*256+((byteOf x).toNat:Int)):=rfl;rw [e];simp only [iq];unfold wrap64;omega
theorem Ue (x:Int) (R:List UInt8):Cj (le x 2++R) false 2=x%65536:=by
 unfold Cj vK;rw [(FV x 2 R).1,aC,NJ _ 0 0 (by unfold wrap64;omega)];exact hvs2 x
def Za (M:Nat) (w:World) (rb:Nat) (n:Int) (R:List UInt8) (e:Ending) (w':World):Prop:=e= .returned (I n)∧jH M w' rb R∧dA rb w w'
theorem uq (n:Int):IntKind.i16.wrap n=(n+32768)%65536 - 32768:=by
 simp [IntKind.wrap,IntKind.bits,IntKind.signed];omega
theorem XO {w:World} {b o:Nat} {xs:List UInt8} (h:∀j,j<32→w.cell? ⟨b,o+j,none⟩=some (Extern.Stop.cell (xs[j]?.getD 0))) (hl:(ay xs).length=32):∀j u,(ay xs)[j]? =some u→w.cell? ((⟨b,o,none⟩:Addr).add j)=some u:=fun j u hu=>by
 have hj:=(iT.1 hu).1;rw [Addr.add_mid,h j (by omega)];unfold ay at hu hl hj;rw [List.length_map] at hl hj;rw [List.getElem?_map,bZ (by omega)] at hu;rw [bZ (by omega)];simpa using hu
def TTxtR (M:Nat) (w:World) (rb pb po:Nat) (t:TypeId) (cs:Array Value) (v:Value) (R:List UInt8) (e:Ending) (w':World):Prop:=
 e= .returned (.tuple #[])∧jH M w' rb R∧bI w rb pb t (cs.setIfInBounds po v) w'
def putRow (cs:Array Value) (o:Nat) (vs:List Value):Array Value:=(splice cs.toList o vs).toArray
theorem Ji (M:Nat) (w:World) (rb pb po:Nat) (t:TypeId) (cs:Array Value) (xs R:List UInt8) (hr:jH M w rb (xs++R)) (h32:xs.length=32) (hp:w.heap[pb]? =some (.cells cs t (0,0))) (hpo:po+32≤cs.size) (pq:M≤pb) (hne:pb≠rb):
  Calls Tryz.prog 162 #[pt rb, .pointer (some ⟨pb,po,none⟩)] w fun e w'=>e= .returned (.tuple #[])∧jH M w' rb R∧bI w rb pb t (putRow cs po (ay xs)) w':=by
 have hpl:pb<w.heap.size:=(bK.1 hp).1;have HC:=ae (vI M w.drew rb 32 (xs++R) hr.drew (by rw [bH,h32];omega));have HP:=ae hp;have HX:Hid ((ay xs).length=32):=ae (by simp [ay,h32]);have HE:Hid ((xs++R).take 32=xs∧(xs++R).drop 32=R):=ae ⟨by rw [←h32,List.take_append_of_le_length (Nat.le_refl _),List.take_of_length_le (Nat.le_refl _)],by rw [←h32,List.drop_append_of_le_length (Nat.le_refl _),List.drop_of_length_le (Nat.le_refl _)];rfl⟩;clear hr hp h32;go_enter Tryz.func162,Tryz.ntmps162;go_wp2_with fail
 go_region_law (first|(go_simp;go_at_call 168;refine HC.out.mono ?_;rintro e w5 ⟨b5,o5,c5,rfl,hl5,hm5,hbM,hb5,yV,hk5⟩;rw [HE.out.1] at hb5;rw [HE.out.2] at yV;have rG:=ae yV;have Ce:=ae hk5;have rV:Hid (∀j u,(ay xs)[j]? =some u→w5.cell? ((⟨b5,o5,none⟩:Addr).add j)=some u):=ae (XO hb5 HX.out);have Vq:Hid (w5.heap[pb]? =some (.cells cs t (0,0))):=ae ((hk5.block pb hpl hne).trans HP.out);clear hb5 yV hk5)|(refine Dl (by rfl) _ _ _ _ (by rfl) 5 Tryz.underlying22 (by kernel_rfl) pb po 32 32 ⟨b5,o5,none⟩ 32 c5 (by rfl) (by rfl) cs t Vq.out (ay xs) (by rw [HX.out];rfl) rV.out (by rw [HX.out];exact hpo) (Uh xs) (putRow cs po (ay xs)) rfl ?_))
 all_goals
  have H6:Hid (jH M (w5.setRow pb (putRow cs po (ay xs))) rb R):=ae (rG.out.of (setRow_other _ _ _ _ (fun e=>hne e.symm)) fun k hk=>setRow_other _ _ _ _ (by omega));have H7:Hid (bI w rb pb t (putRow cs po (ay xs)) (w5.setRow pb (putRow cs po (ay xs)))):=ae ⟨Ce.out.os,Ce.out.tape,Ce.out.output,by simpa [World.setRow] using Ce.out.size,fun k hk h1 h2=>(setRow_other _ _ k _ h1).trans (Ce.out.block k hk h2),setRow_heap _ _ _ _ _ _ Vq.out⟩;go_wp2_with fail
  go_end0
  exact ⟨rfl,H6.out,H7.out⟩
theorem uP (a:Nat) (ha:a≤1000000) (w:World):Calls Tryz.prog 128 #[I a] w fun e w'=>e= .returned (.int .u64 a)∧w'=w:=by
 have h0:¬(a:Int)<0:=by omega
 have hw:IntKind.u64.wrap (a:Int)=a:=by rw [IntKind.wrap_u64];omega
 go_enter Tryz.func128,Tryz.ntmps128
 go_wp2
 go_ret;exact ⟨rfl,rfl⟩
def TL:Value→Nat
 | .int _ n=>n.toNat
 |_=>0
theorem Xb (a b:Nat) (ha:a≤1000000) (hb:b≤1000000) (w:World):Calls Tryz.prog 115 #[I a,I b] w fun e w'=>e= .returned (I (Nat.gcd a b))∧∃m,w'=w.drewN m:=by
 go_enter Tryz.func115,Tryz.ntmps115;go_wp2_with fail;refine (uP a ha _).mono ?_;rintro e w1 ⟨rfl,rfl⟩;go_wp2_with fail;refine (uP b hb _).mono ?_;rintro e w2 ⟨rfl,rfl⟩;go_wp2_with fail
 go_loopw [5,6] (fun u v wr=>∃x y:Nat,u= .int .u64 x∧v= .int .u64 y∧x≤1000000∧y≤1000000∧Nat.gcd x y=Nat.gcd a b∧∃m,wr=w2.drewN m) (fun _ v _=>TL v)
 case atStart=>exact ⟨a,b,rfl,rfl,ha,hb,rfl,0,rfl⟩
 case round=>
  obtain ⟨x,y,rfl,rfl,hx,hy,hg,mq,rfl⟩:=hrel;have HG:=ae hg;clear hg;by_cases hy0:y=0
  ·subst hy0;have hq:¬(9223372036854775807:Int)<(x:Int):=by omega
   have hw:IntKind.i64.wrap (x:Int)=x:=by rw [IntKind.wrap_i64];omega
   go_wp2_with fail;go_ret;refine ⟨?_,mq,rfl⟩;have:=HG.out;rw [Nat.gcd_zero_right] at this;rw [this];rfl
  ·have hy1:¬(y:Int)=0:=by omega
   have hy2:((y:Int) !=0)=true:=by simp [hy0]
   have hlt:x%y<y:=Nat.mod_lt _ (by omega);obtain ⟨z,hz⟩:∃z,x%y=z:=⟨_,rfl⟩;have hm:(x:Int)%(y:Int)=(z:Int):=by omega
   have hm2:Int.tmod (x:Int) (y:Int)=(z:Int):=by rw [Int.tmod_eq_emod_of_nonneg (by omega)];exact hm
   rw [hz] at hlt;have HZ:=ae hz;have hw:IntKind.u64.wrap (z:Int)=(z:Int):=by rw [IntKind.wrap_u64];omega
   clear hz;go_wp2_with fail;go_quiet (fail);go_wp2_with fail;go_roundw
   case rel=>exact ⟨y,z,rfl,by first|rfl|go_num,hy,by omega,by rw [←HG.out,Nat.gcd_comm x y,Nat.gcd_rec y x,Nat.gcd_comm,HZ.out],_,World.drewN_drewN _ _ _⟩
   case measure=>simp [TL];omega
theorem Xo (a b:Nat) (ha:1≤a) (ha2:a≤100000) (hb:1≤b) (hb2:b≤100000) (w:World):Calls Tryz.prog 105 #[I a,I b] w fun e w'=>e= .returned (.tuple #[I (Nat.lcm a b),I 0])∧∃m,w'=w.drewN m:=by
 have HG:=ae (Xb a b (by omega) (by omega) w);have h1:¬(a:Int)<1:=by omega
 have h2:¬(b:Int)<1:=by omega
 have GL:0<Nat.gcd a b:=Nat.gcd_pos_of_pos_left _ ha;have hl:a / Nat.gcd a b*b=Nat.lcm a b:=by
  have e:=Nat.lcm_eq_mul_div a b;rw [e,Nat.div_mul_right_comm (Nat.gcd_dvd_left a b)]
 obtain ⟨g,hg⟩:∃g,Nat.gcd a b=g:=⟨_,rfl⟩;rw [hg] at HG GL hl;obtain ⟨r,hr⟩:∃r,a / g=r:=⟨_,rfl⟩;have hr4:r≤100000:=by rw [←hr];exact Nat.le_trans (Nat.div_le_self _ _) ha2
 have hq:Int.tdiv (a:Int) (g:Int)=(r:Int):=by rw [←hr];rfl
 have hq':(a:Int) / (g:Int)=(r:Int):=by rw [←hr];rfl
 obtain ⟨t,ht⟩:∃t,1099511627776 / b=t:=⟨_,rfl⟩;have ht4:100000≤t:=by rw [←ht,Nat.le_div_iff_mul_le (by omega)];omega
 have hq2:Int.tdiv 1099511627776 (b:Int)=(t:Int):=by rw [←ht];rfl
 have hq2':(1099511627776:Int) / (b:Int)=(t:Int):=by rw [←ht];rfl
 have hbig:¬(t:Int)<(r:Int):=by omega
 have hwr:IntKind.i64.wrap (r:Int)=r:=by rw [IntKind.wrap_i64];omega
 have ht5:t≤1099511627776:=by rw [←ht];exact Nat.div_le_self _ _
 have hwt:IntKind.i64.wrap (t:Int)=t:=by rw [IntKind.wrap_i64];omega
 rw [hr] at hl;have hp:(r:Int)*(b:Int)=((Nat.lcm a b:Nat):Int):=by rw [←hl];exact (Int.natCast_mul r b).symm
 have hlb:Nat.lcm a b≤10000000000:=by rw [←hl];exact Nat.mul_le_mul hr4 hb2
 obtain ⟨m,hm⟩:∃m,Nat.lcm a b=m:=⟨_,rfl⟩;rw [hm] at hp hlb ⊢;have hwm:IntKind.i64.wrap (m:Int)=m:=by rw [IntKind.wrap_i64];omega
 have hg0:¬(g:Int)=0:=by omega
 have hb0:¬(b:Int)=0:=by omega
 clear hr ht hl hm hg;go_enter Tryz.func105,Tryz.ntmps105;go_wp2_with fail;refine HG.out.mono ?_;rintro e w1 ⟨rfl,mq,rfl⟩;go_wp2_with fail;go_ret2;exact ⟨rfl,mq,rfl⟩
structure Lr where
 every:Int
 rest:Int
 yes:Bool
theorem Xp (a b:Nat) (ha:1≤a) (ha2:a≤400) (hb:1≤b) (hb2:b≤400) (w:World):Calls Tryz.prog 105 #[I a,I b] w fun e w'=>e= .returned (.tuple #[I (Nat.lcm a b),I 0])∧Below w.heap.size w w':=
 (Xo a b ha (by omega) hb (by omega) w).mono fun _ _ ⟨h1,m,h2⟩=>⟨h1,by rw [h2];exact below_drewN' _ _⟩
def Lr.cells (r:Lr):List Value:= [I r.every,I r.rest, .bool r.yes]
def DU (w:World) (B:Nat) (A:Option Addr) (rs:List Lr):Prop:=
 rs.length=0∨∃b,A=some ⟨b,0,none⟩∧b<B∧∀k x,rs[k]? =some x→w.rangeAt b (k*3) x.cells
theorem DU.keep {w w':World} {B:Nat} {A:Option Addr} {rs:List Lr} (h:DU w B A rs) (hb:Below B w w'):DU w' B A rs:=by
 rcases h with h|⟨b,h1,h2,h3⟩
 ·exact .inl h
 ·exact .inr ⟨b,h1,h2,fun k x hx=>aU (h3 k x hx) hb h2⟩
theorem DU.more {w:World} {B B':Nat} {A:Option Addr} {rs:List Lr} (h:DU w B A rs) (hB:B≤B'):DU w B' A rs:=by
 rcases h with h|⟨b,h1,h2,h3⟩
 ·exact .inl h
 ·exact .inr ⟨b,h1,by omega,h3⟩
structure Cal where
 aJ:Int
 aj:List Int
 aY:Int
 rules:List Lr
def aH (c:Cal) (A:Option Addr) (ca:Nat) (B:Option Addr) (cb:Nat):Array Value:= #[I c.aJ, .slice A c.aj.length ca,I c.aY, .slice B c.rules.length cb]
attribute [local go_sem] aH
end Go.Proofs.YtbaehbbonkljpaaGreat
namespace Go.Proofs.YtbaehbbonkljpaaGreat
open Go Go.RowKit
structure Tr where
 at_:Int
 off:Int
structure Yr where
 month:Int
 cZ:Int
 dh:Int
 minute:Int
 off:Int
structure Zn where
 cal:Cal
 start:Int
 trans:List Tr
 hor:Int
 ax:List Yr
structure Zs where
 A:Option Addr
 a:Nat
 B:Option Addr
 b:Nat
 C:Option Addr
 c:Nat
 D:Option Addr
 d:Nat
def au (z:Zn) (s:Zs):Array Value:= #[I z.cal.aJ, .slice s.A z.cal.aj.length s.a,I z.cal.aY, .slice s.B z.cal.rules.length s.b,I z.start, .slice s.C z.trans.length s.c,I z.hor, .slice s.D z.ax.length s.d]
theorem JD (n l:Int) (w:World) (hl:0≤l∧l≤4503599627370496):Calls Tryz.prog 75 #[I n,I l] w fun e w'=>e= .returned (.bool (decide (-l≤n)&&decide (n≤l)))∧w'=w:=by
 have hw:IntKind.i64.wrap (-l)= -l:=by rw [IntKind.wrap_i64];omega
 by_cases h1: -l≤n
 ·by_cases h2:n≤l
  ·have e:(decide (-l≤n)&&decide (n≤l))=true:=by rw [decide_eq_true h1,decide_eq_true h2];rfl
   rw [e];go_enter Tryz.func75,Tryz.ntmps75
   go_wp2
   go_ret;exact ⟨rfl,rfl⟩
  ·have e:(decide (-l≤n)&&decide (n≤l))=false:=by rw [decide_eq_false h2];simp
   rw [e];go_enter Tryz.func75,Tryz.ntmps75
   go_wp2
   go_ret;exact ⟨rfl,rfl⟩
 ·have e:(decide (-l≤n)&&decide (n≤l))=false:=by rw [decide_eq_false h1];simp
  rw [e];go_enter Tryz.func75,Tryz.ntmps75
  go_wp2
  go_ret;exact ⟨rfl,rfl⟩
theorem lF (z:Zn) (s:Zs):(Tryz.prog.info? 54).map (·.size)=some (au z s).size:=by kernel_rfl
theorem BZ (z:Zn) (s:Zs):(au z s).all (·.oneCell')=true:=by kernel_rfl
theorem fE {P:Program} {fn:Func} {p q:Tmp} {t1 t2:TypeId} (h:fn.results= #[.cell p t1, .cell q t2]) (tmps:Array Value) (w:World) (a b:Addr) (u v:Value)
  (hp:tmps.getD p undef= .pointer (some a)) (hu:(loadVar t1 a).run P w= .ok u w) (hq:tmps.getD q undef= .pointer (some b)) (hv:(loadVar t2 b).run P w= .ok v w):
  (results fn tmps).run P w= .ok (.tuple #[u,v]) w:=by
 have hp':tmps[p]?.getD undef= .pointer (some a):=by simpa using hp
 have hq':tmps[q]?.getD undef= .pointer (some b):=by simpa using hq
 simp [results,h,hp',hq',asAddr,hu,hv]
theorem vg (W:World) (a:Addr) (b:Nat) (h:W.cell? a=some (pt b)):(loadVar 134 a).run Tryz.prog W= .ok (pt b) W:=by
 simp [go_sem,h]
theorem lT (W:World) (a:Addr) (b:Bool) (h:W.cell? a=some (.bool b)):(loadVar 4 a).run Tryz.prog W= .ok (.bool b) W:=by
 simp [go_sem,h]
structure ZO (w:World) (cs:Array Value) (W:World):Prop where
 row:Row W w.heap.size cs
 r1:W.heap[w.heap.size+1]? =some (.cells #[.pointer none] 134 (0,0))
 r2:W.heap[w.heap.size+2]? =some (.cells #[.bool false] 4 (0,0))
 up:Below w.heap.size w W
theorem ZO.below {w W W':World} {cs:Array Value} (h:ZO w cs W) (hb:Below W.heap.size W W'):ZO w cs W':=
 ⟨h.row.keep hb,(hb.block _ (bK.1 h.r1).1).trans h.r1,(hb.block _ (bK.1 h.r2).1).trans h.r2,ai h.up hb⟩
theorem Va (w:World) (cs:Array Value):ZO w cs (((w.alloc (.cells cs 54)).alloc (.cells #[.pointer none] 134)).alloc (.cells #[.bool false] 4)):=by
 have b0:=ag w (.cells cs 54);have r0:=Row.new w cs 54;obtain ⟨W1,hW1⟩:∃W,w.alloc (.cells cs 54)=W:=⟨_,rfl⟩;have hs1:W1.heap.size=w.heap.size+1:=by rw [←hW1];simp
 rw [hW1] at b0 r0 ⊢;have b1:=ag W1 (.cells #[.pointer none] 134);have h1:=heap_alloc_last W1 (.cells #[.pointer none] 134);obtain ⟨W2,hW2⟩:∃W,W1.alloc (.cells #[.pointer none] 134)=W:=⟨_,rfl⟩;have hs2:W2.heap.size=w.heap.size+2:=by rw [←hW2];simp [hs1]
 rw [hW2] at b1 h1 ⊢;rw [hs1] at h1;have b2:=ag W2 (.cells #[.bool false] 4);have h2:=heap_alloc_last W2 (.cells #[.bool false] 4);rw [hs2] at h2;exact ⟨(r0.keep b1).keep b2,(b2.block _ (by omega)).trans h1,h2,ai (ai b0 b1) b2⟩
structure Ze where
 name:ByteArray
 z:Zn
structure dB where
 e:Ze
 s:Zs
def dB.cells (x:dB):Array Value:= #[.string x.e.name,I x.e.z.cal.aJ, .slice x.s.A x.e.z.cal.aj.length x.s.a,I x.e.z.cal.aY, .slice x.s.B x.e.z.cal.rules.length x.s.b,I x.e.z.start, .slice x.s.C x.e.z.trans.length x.s.c,I x.e.z.hor, .slice x.s.D x.e.z.ax.length x.s.d]
structure Tb where
 bV:Int
 version:Int
 aO:Int
 prev:List UInt8
 dQ:List UInt8
 aG:List Ze
def iW (t:Tb) (vz:Value):List Value:= [I t.bV,I t.version,I t.aO,vz]++(ay t.prev++ay t.dQ)
def ah (t:Tb) (vz:Value):Array Value:=(iW t vz).toArray
section
variable (t:Tb) (vz:Value)
theorem iY:(ah t vz)[0]? =some (I t.bV):=rfl
theorem iZ:(ah t vz)[1]? =some (I t.version):=rfl
theorem ja:(ah t vz)[2]? =some (I t.aO):=rfl
theorem bC:(ah t vz)[3]? =some vz:=rfl
theorem bF (h:t.prev.length=32) (h2:t.dQ.length=32):(ah t vz).size=68:=by simp [ah,iW,ay,h,h2]
theorem bG (h:t.prev.length=32) (h2:t.dQ.length=32):(Tryz.prog.info? 39).map (·.size)=some (ah t vz).size:=by rw [bF t vz h h2];kernel_rfl
theorem qP {W:World} {b:Nat} (hr:Row W b (ah t vz)):W.rangeAt b 4 (ay t.prev):=fun j v hv=>by
 rw [hr.2 (4+j)];unfold ah iW;rw [List.getElem?_toArray,List.getElem?_append_right (by simp)];have hj:=(iT.1 hv).1;rw [show 4+j - [I t.bV,I t.version,I t.aO,vz].length=j by simp,List.getElem?_append_left hj];exact hv
theorem MH {W:World} {b:Nat} (hr:Row W b (ah t vz)) (hp:t.prev.length=32):W.rangeAt b 36 (ay t.dQ):=fun j v hv=>by
 rw [hr.2 (36+j)];unfold ah iW;have hl:(ay t.prev).length=32:=by simp [ay,hp]
 rw [List.getElem?_toArray,List.getElem?_append_right (by simp;omega),List.getElem?_append_right (by simp [hl];omega)];rw [show 36+j - [I t.bV,I t.version,I t.aO,vz].length - (ay t.prev).length=j by simp [hl];omega];exact hv
end
def xW (w:World) (B:Nat) (A:Option Addr) (zs:List dB):Prop:=
 zs.length=0∨∃b,A=some ⟨b,0,none⟩∧b<B∧∀k x,zs[k]? =some x→w.rangeAt b (k*9) x.cells.toList∧jU w B x.s.A x.e.z.cal.aj
theorem xW.keep {w w':World} {B:Nat} {A:Option Addr} {zs:List dB} (h:xW w B A zs) (hb:Below B w w'):xW w' B A zs:=by
 rcases h with h|⟨b,h1,h2,h3⟩
 ·exact .inl h
 ·exact .inr ⟨b,h1,h2,fun k x hx=>⟨aU (h3 k x hx).1 hb h2,(h3 k x hx).2.keep hb⟩⟩
theorem xW.more {w:World} {B B':Nat} {A:Option Addr} {zs:List dB} (h:xW w B A zs) (hB:B≤B'):xW w B' A zs:=by
 rcases h with h|⟨b,h1,h2,h3⟩
 ·exact .inl h
 ·exact .inr ⟨b,h1,by omega,fun k x hx=>⟨(h3 k x hx).1,(h3 k x hx).2.more hB⟩⟩
section
variable {P:Program} {ops:Array Oper} {Q:Exit→Act→World→Prop} {a:Act} {w:World} {rest:List Oper} {o:Oper}
theorem dw (hw:Region.wanted o (yielded ops a.tmps)=true) (ty:TypeId) (x:Operand) (ho:o.op= .load ty x) (g off:Nat) (hx:a.eval x= .pointer (some ⟨g,off,none⟩)) (cs:List Value) (hr:w.rangeAt g off cs)
  (d:TypeDesc) (hu:P.underlying ty=some d) (hd:d.isRow=true) (hi:(P.info? ty).map (·.size)=some cs.length)
  (h:wpList P ops Q rest (a.put o.dst (.agg cs.toArray)) w):wpList P ops Q (o::rest) a w:=by
 unfold wpList;rw [if_pos hw];exact .inl (wp_load_mid ty x ho g off hx cs d hr hu hd hi h)
end
def gQ (w:World) (g:Nat) (v:Value) (bs:List UInt8):Prop:=
 w.heap[g]? =some (.cells #[v] 75 (0,0))∧w.ownsRow (g+1) 5 1 v bs.length (bs.map Extern.Stop.cell)
theorem Qb {w w1:World} {g:Nat} {v v':Value} {bs:List UInt8} {c:UInt8} {o:Obj} (h:gQ w g v bs) (hg:g<w.heap.size)
  (hown:w1.ownsRow (g+1) 5 1 v' (bs.length+1) (bs.map Extern.Stop.cell++ [Extern.Stop.cell c])) (hgrow:(w.alloc o).grownBy w1 v.ownBlock)
  (hat:v'.ownBlock=v.ownBlock∨v'.ownBlock=some (w.heap.size+1)):
  w1.heap[g]? =some (.cells #[v] 75 (0,0))∧gQ (w1.setCell ⟨g,0,none⟩ v') g v' (bs++ [c])∧iE g v w v' (w1.setCell ⟨g,0,none⟩ v'):=by
 have hne:some g≠v.ownBlock:=dZ h.2 g (Nat.lt_succ_self g);have hg1:w1.heap[g]? =some (.cells #[v] 75 (0,0)):=by
  rw [hgrow.block g (by simp;omega) hne,Below.heap_alloc w o g hg];exact h.1
 refine ⟨hg1,⟨?_,?_⟩,?_⟩
 ·rw [heap_setCell_same w1 g 0 _ _ v' hg1];rfl
 ·have:=bY (u:=v') (p:=⟨g,0,none⟩) hown (dZ hown g (Nat.lt_succ_self g));simpa using this
 ·refine ⟨hgrow.os,hgrow.tape,hgrow.output,?_,fun k hk hkg hkv=>?_,?_⟩
  ·have:=hgrow.size;simp [World.setCell] at this ⊢;omega
  ·rw [heap_setCell_other w1 _ k v' hkg,hgrow.block k (by simp;omega) hkv,Below.heap_alloc w o k hk]
  ·rcases hat with e|e
   ·exact .inl e
   ·exact .inr ⟨_,e,by omega⟩
def iQ (w:World) (g:Nat) (v:Value) (bs:List UInt8) (e:Ending) (w':World):Prop:=
 e= .returned (.tuple #[])∧∃v',gQ w' g v' bs∧iE g v w v' w'
def TwRel (w:World) (g:Nat) (v:Value) (bs:List UInt8) (n:Int) (size:Nat) (x i:Value) (wr:World):Prop:=
 ∃k:Nat,k≤size∧i= .int .i64 k∧x= .int .i64 (jQ n k)∧∃v',gQ wr g v' (bs++le n k)∧iE g v w v' wr
theorem dC (w:World) (g:Nat) (p:Addr) (v:Value) (bs:List UInt8) (n:Int) (size:Nat) (hn0: -9223372036854775808≤n) (hn1:n≤9223372036854775807) (hs:size≤8) (hl:bs.length≤1099511627776) (hg:g<w.heap.size) (hst:gQ w g v bs) (hp:w.cell? p=some (I n)):
  Calls Tryz.prog 159 #[pt g, .pointer (some p),I size] w (iQ w g v (bs++le n size)):=by
 obtain ⟨i0,hi,hz0,hz1,hz2⟩:=info_parts lh;have HST:=ae hst;clear hst;go_enter Tryz.func159,Tryz.ntmps159
 go_wp2
 go_loopw [6,11] (fun x i wr=>TwRel w g v bs n size x i wr) (fun _ i _=>size - (intOf i).toNat)
 case atStart=>exact ⟨0,Nat.zero_le _,rfl,rfl,v,by simpa [le] using HST.out,iE.refl _ _ _⟩
 case round=>
  obtain ⟨k,hk,rfl,rfl,v1,hw1,hk1⟩:=hrel;by_cases hlt:k<size
  ·obtain ⟨x,hx⟩:∃x,jQ n k=x:=⟨_,rfl⟩;have hbd:=Mc n k hn0 hn1;rw [hx] at hbd ⊢;have HX:=ae hx;obtain ⟨B,hB⟩:∃B,bs++le n k=B:=⟨_,rfl⟩;have hlen:B.length≤1099511627784:=by rw [←hB,bH,aC];omega
   rw [hB] at hw1;have HBB:=ae hB;have hc:=cell_of_row wr g 0 _ _ _ hw1.1;have hgr:g<wr.heap.size:=dW hg hk1.size;have HW:=ae hw1;have HK:=ae hk1;have hown:=ae hw1.2;clear hx hw1 hk1 hB;go_wp2_with (at_builtin;refine wpList_append_own_at _ rfl _ _ 22 rfl (g+1) 5 i0 (.int .u8 0) 1 1 Tryz.underlying22 hi hz0 hz1 hz2 rfl (by decide) _ _ _ rfl (hown.out.alloc _) ⟨wr.heap.size,0,none⟩ 1 1 [Extern.Stop.cell (byteOf x)] rfl rfl ?c1 ?c2 ?c3 ?c4 ?c5 ?_)
   case c1=>
    rw [fQ];exact cell_one_new _ _ _
   case c2=>intro u hu;simp at hu;subst hu;rfl
   case c3=>unfold maxLen;omega
   case c4=>omega
   case c5=>simp;omega
   intro v' w1 hown' hgrow _ hat;obtain ⟨hg1,hst1,hkp1⟩:=Qb HW.out hgr hown' hgrow hat;obtain ⟨g',cap',rfl,_⟩:=fM hown' (Nat.succ_pos _);have hc1:=cell_of_row w1 g 0 _ _ _ hg1;have hf1:=frozen_of_row w1 g 0 _ _ hg1;have HST1:=ae hst1;have HKP1:=ae hkp1;clear hown' hgrow hat hg1 hst1 hkp1 hc
   go_wp2
   go_roundw
   case rel=>exact ⟨k+1,by omega,by go_num,by unfold jQ;rw [HX.out],_,by rw [FB,←List.append_assoc,HBB.out,HX.out];exact HST1.out,HK.out.trans HKP1.out⟩
   case measure=>simp [intOf];omega
  ·have hke:k=size:=by omega
   have VX:=ae hke;have HW:=ae hw1;have HK:=ae hk1;clear hke hw1 hk1
   go_wp2
   go_end0
   exact ⟨rfl,v1,by rw [←VX.out];exact HW.out,HK.out⟩
end Go.Proofs.YtbaehbbonkljpaaGreat
