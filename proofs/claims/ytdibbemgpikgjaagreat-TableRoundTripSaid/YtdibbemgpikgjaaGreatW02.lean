/- The texts TrN, Ps, TrL, SvE, SvF, TbC, TbD, in this order. -/
import Derived.Test.YtdibbemgpikgjaaGreatW00
import Derived.Lib.ByteType
import Derived.Lib.AppendStr
import Derived.Test.YtdibbemgpikgjaaGreatW01
set_option maxRecDepth 10000
set_option maxHeartbeats 8000000
namespace Go.Proofs.YtdibbemgpikgjaaGreat
open Go Go.RowKit Go.Shelf
attribute [local go_sem] Oper.semAt_some
structure lq (w:World) (pb:Nat) (t:TypeId) (cs:Array Value) (W:World):Prop where
 os:W.os=w.os
 tape:W.tape=w.tape
 output:W.output=w.output
 size:w.heap.size≤W.heap.size
 block:∀k,k<w.heap.size→k≠pb→W.heap[k]? =w.heap[k]?
 tgt:W.heap[pb]? =some (.cells cs t (0,0))
 lt:pb<w.heap.size
theorem lq.grow {w W W':World} {pb:Nat} {t:TypeId} {cs:Array Value} (h:lq w pb t cs W) (hb:Below W.heap.size W W'):lq w pb t cs W':=
 ⟨hb.os.trans h.os,hb.tape.trans h.tape,hb.output.trans h.output,Nat.le_trans h.size hb.size,fun k hk hp=>(hb.block k (dS hk h.size)).trans (h.block k hk hp),(hb.block pb (dS h.lt h.size)).trans h.tgt,h.lt⟩
theorem lq.put {w W:World} {pb:Nat} {t:TypeId} {cs:Array Value} (h:lq w pb t cs W) (o:Nat) (v:Value):lq w pb t (cs.setIfInBounds o v) (W.setCell ⟨pb,o,none⟩ v):=
 ⟨h.os,h.tape,h.output,by simpa [World.setCell] using h.size,fun k hk hp=>(heap_setCell_other W _ k v hp).trans (h.block k hk hp),heap_setCell_same W pb o _ _ _ h.tgt,h.lt⟩
theorem lq.drew {w W:World} {pb:Nat} {t:TypeId} {cs:Array Value} (h:lq w pb t cs W):lq w pb t cs W.drew:=⟨h.os,h.tape,h.output,h.size,h.block,h.tgt,h.lt⟩
theorem lq.cell {w W:World} {pb:Nat} {t:TypeId} {cs:Array Value} (h:lq w pb t cs W) (i:Nat):W.cell? ⟨pb,i,none⟩=cs[i]? :=cell_of_row W pb i _ _ _ h.tgt
theorem lq.gG {w W:World} {pb:Nat} {t:TypeId} {cs:Array Value} (h:lq w pb t cs W) (i:Nat):W.frozen? ⟨pb,i,none⟩=false:=frozen_of_row W pb i _ _ h.tgt
theorem X7 {β:Type} {w:World} {pb B:Nat} {t:TypeId} (f:β→Array Value) (hB:w.heap.size≤B):OwnFrom B (fun s W=>lq w pb t (f s) W):=
 fun s W W' row hs hg hr=>⟨hg.os.trans hs.os,hg.tape.trans hs.tape,hg.output.trans hs.output,Nat.le_trans hs.size hg.size,
  fun k hk hp=>(hg.block k (dS hk hs.size) (fun e=>by have:=(hr k e.symm).1;omega)).trans (hs.block k hk hp),
  (hg.block pb (dS hs.lt hs.size) (fun e=>by have:=(hr pb e.symm).1;have:=hs.lt;omega)).trans hs.tgt,hs.lt⟩
structure bD (w:World) (rb pb:Nat) (t:TypeId) (cs:Array Value) (w':World):Prop where
 os:w'.os=w.os
 tape:w'.tape=w.tape
 output:w'.output=w.output
 size:w.heap.size≤w'.heap.size
 block:∀k,k<w.heap.size→k≠pb→k≠rb→w'.heap[k]? =w.heap[k]?
 tgt:w'.heap[pb]? =some (.cells cs t (0,0))
theorem U3 {w w2 W:World} {M pb po B:Nat} {t:TypeId} {cs:Array Value} {pre:List (Nat×UInt8)} {xi:Nat} {xc:UInt8} {v u:Int} (mG:M≤pb) (hpb:pb<w.heap.size) (hw2:w.heap.size<w2.heap.size)
  (hbx:Boxed W w.heap.size 115 (.pointer (some ⟨pb,po,none⟩))) (hB:lq w2 pb t (cs.setIfInBounds po (I (wR pre))) W) (hu:wR pre=u) (hv:v=zI u xc):
  KeepsFrom B W (W.setCell ⟨pb,po,none⟩ (I v)).drew∧BK M w2.heap.size W (W.setCell ⟨pb,po,none⟩ (I v)).drew∧Boxed (W.setCell ⟨pb,po,none⟩ (I v)).drew w.heap.size 115 (.pointer (some ⟨pb,po,none⟩))∧lq w2 pb t (cs.setIfInBounds po (I (wR (pre++ [(xi,xc)])))) (W.setCell ⟨pb,po,none⟩ (I v)).drew:=by
 have hk:KeepsOthers W (W.setCell ⟨pb,po,none⟩ (I v)):=KeepsOthers.setCell _ _ _;have hk2:KeepsOthers W (W.setCell ⟨pb,po,none⟩ (I v)).drew:=⟨hk.size,hk.same⟩;refine ⟨hk2.from _,⟨((Below.refl M W).setCell (p:=⟨pb,po,none⟩) mG _).drew,?_⟩,?_,?_⟩
 ·exact World.cell?_of_block (a:=⟨w2.heap.size,0,none⟩) (heap_setCell_other W _ _ _ (by show w2.heap.size≠pb;omega))
 ·exact (heap_setCell_other W _ _ _ (by show w.heap.size≠pb;omega)).trans hbx
 ·have h:=hB.put po (I v);rw [Array.setIfInBounds_setIfInBounds] at h;rw [QG,hu,←hv];exact h.drew
def TNum (M:Nat) (w:World) (rb pb po:Nat) (t:TypeId) (cs:Array Value) (rest:List UInt8) (size:Nat) (e:Ending) (w':World):Prop:=
 e= .returned (.tuple #[])∧fQ M w' rb (rest.drop size)∧bD w rb pb t (cs.setIfInBounds po (I (AA rest false size))) w'
theorem rX (M:Nat) (w:World) (rb pb po size:Nat) (t:TypeId) (cs:Array Value) (rest:List UInt8) (hr:fQ M w rb rest) (h8:size≤8) (hn:size≤rest.length) (hp:w.heap[pb]? =some (.cells cs t (0,0))) (hpo:po<cs.size) (mG:M≤pb) (hne:pb≠rb):
  Calls Tryz.prog 166 #[pt rb, .pointer (some ⟨pb,po,none⟩),I size] w (TNum M w rb pb po t cs rest size):=by
 refine (callsIn_wide (n:=3)).1 ?_;have hro:Fence.wide.round=none:=rfl;have h1:1≤3:=by omega
 have hlt:=hr.lt;have hpl:pb<w.heap.size:=(bY.1 hp).1;have hMl:=hr.lo;have hc0:w.cell? ⟨pb,po,none⟩=some cs[po]:=by rw [cell_of_row w pb po _ _ _ hp];exact Array.getElem?_eq_getElem hpo
 have hf0:w.frozen? ⟨pb,po,none⟩=false:=frozen_of_row w pb po _ _ hp;obtain ⟨WS,hWS⟩:∃W,w.setCell ⟨pb,po,none⟩ (I 0)=W:=⟨_,rfl⟩;have hsS:WS.heap.size=w.heap.size:=by rw [←hWS];simp [World.setCell]
 have hTS:lq w pb t (cs.setIfInBounds po (I 0)) WS:=by
  rw [←hWS];exact ⟨rfl,rfl,rfl,by simp [World.setCell],fun k _ hk2=>heap_setCell_other _ _ k _ hk2,heap_setCell_same _ pb po _ _ _ hp,hpl⟩
 obtain ⟨W1,hW1⟩:∃W,WS.alloc (.cells #[.pointer (some ⟨pb,po,none⟩)] 115)=W:=⟨_,rfl⟩;have hs1:W1.heap.size=w.heap.size+1:=by rw [←hW1];simp [hsS]
 have hT1:lq w pb t (cs.setIfInBounds po (I 0)) W1:=by rw [←hW1];exact hTS.grow (ag WS _)
 have Zc:Boxed W1 w.heap.size 115 (.pointer (some ⟨pb,po,none⟩)):=by
  rw [←hW1,←hsS];exact Boxed.new WS 115 (.pointer (some ⟨pb,po,none⟩))
 rw [←hWS] at hW1;have hr1:fQ M W1 rb rest:=hr.of (hT1.block rb hlt (fun e=>hne e.symm)) fun k hk=>hT1.block k (by omega) (by omega);have HT0:=rZ M W1 rb size rest hr1 hn;obtain ⟨bs,hbs⟩:∃bs,rest.take size=bs:=⟨_,rfl⟩;have hbl:bs.length=size:=by rw [←hbs,List.length_take];omega
 unfold GotT at HT0;rw [hbs] at HT0;have hrd:AA rest false size=wR (upto (bk bs) bs.length):=by
  have e1:Zv rest false size=false:=by unfold Zv;simp;omega
  unfold AA tk;rw [e1];simp only [Bool.false_eq_true,if_false,hbs]
 have HL:=ae hbl;have V7:=ae hrd;have HT:=ae HT0;have HT1:=ae hT1;have HBOX:=ae Zc;have HW1:=ae hW1;have HP:=ae hp;clear hr hr1 HT0 hbs hbl hrd hT1 Zc hW1 hWS hsS hTS hp;refine callsIn_of_wp_marks Tryz.func166 rfl trivial ?_ hro;simp only [Tryz.ntmps166,List.size_toArray,List.length_cons,List.length_nil,Nat.reduceAdd,Nat.reduceSub,Array.replicate_succ,Array.replicate_zero,List.push_toArray,List.append_toArray,List.nil_append,List.cons_append]
 gi_wp2_with first
  |(refine ⟨trivial,?_⟩;gi_at_call 169;rw [HW1.out];refine (callsIn_wide.2 HT.out).mono ?_;rintro e w2 ⟨bb,off,c,rfl,hcl,hcc,hbM,hby,hrs,hk⟩;have Bz:=ae hby;have YR:=ae hrs;have HK:=ae hk;clear hby hrs hk)
  |(refine ⟨trivial,?_⟩;gi_at_call 170;refine (Wy Fence.wide 2 trivial hro _ _ _ _).mono ?_;rintro e w' ⟨rfl,rfl⟩)
 have hsk:=HK.out.size;have hT2:lq w2 pb t (cs.setIfInBounds po (I 0)) w2:=⟨rfl,rfl,rfl,Nat.le_refl _,fun _ _ _=>rfl,(HK.out.block pb (by omega) hne).trans HT1.out.tgt,by omega⟩;have Zd:Boxed w2 w.heap.size 115 (.pointer (some ⟨pb,po,none⟩)):=(HK.out.block w.heap.size (by omega) (by omega)).trans HBOX.out;have hB1:Below w.heap.size w2 (w2.alloc (.cells #[.slice (some ⟨bb,off,none⟩) size c] 22)):=((Below.refl _ w2).alloc (Nat.le_refl _) _).mono (by omega);have hby1:BytesAt (w2.alloc (.cells #[.slice (some ⟨bb,off,none⟩) size c] 22)) M (some ⟨bb,off,none⟩) bs:= .inr ⟨bb,off,rfl,hbM,fun j hj=>(hB1.cell (p:=⟨bb,off+j,none⟩) (by show bb<w.heap.size;omega)).trans (Bz.out j (by have:=HL.out;omega))⟩;have bN:=Boxed.new w2 22 (.slice (some ⟨bb,off,none⟩) size c);have hcl2:(w2.alloc (.cells #[.slice (some ⟨bb,off,none⟩) size c] 22)).cell? ⟨w2.heap.size,0,none⟩=some (.slice (some ⟨bb,off,none⟩) size c):=bN.cell;have hst:=LJ Fence.wide (3 - 1) trivial hro (by omega) w2.heap.size M (some ⟨bb,off,none⟩) c bs (by have:=HL.out;omega) (w2.alloc (.cells #[.slice (some ⟨bb,off,none⟩) size c] 22)) (by simp) (by simp;omega) (by rw [HL.out];exact hcl2) hby1;have hI0:lq w2 pb t (cs.setIfInBounds po (I 0)) (w2.alloc (.cells #[.slice (some ⟨bb,off,none⟩) size c] 22)):=hT2.grow (ag w2 _);refine wpIn_rangeFunc_ownG hro h1 (gf:=171) (lb:= #[.pointer (some ⟨w2.heap.size,0,none⟩)]) rfl trivial (enters_of Tryz.func171 (by kernel_rfl) rfl)
  hst (fun h k=>h.trans k) (bk_b (by simp;omega) (by simp)) (Below.refl _ _) (fun _=>rfl)
  (fun pre W=>Boxed W w.heap.size 115 (.pointer (some ⟨pb,po,none⟩))∧lq w2 pb t (cs.setIfInBounds po (I (wR pre))) W)
  (fun _ _ _=>False)
  (OwnFrom.and (Own.from (boxed_own _ _ _) _) (X7 _ (by simp)))
  (fun _ _ _ _ _ hs _ _=>hs)
  ⟨Zd.alloc _,hI0⟩
  (fun x=> {tmps:= #[pt rb, .pointer (some ⟨pb,po,none⟩),I size,undef, .pointer (some ⟨w.heap.size,0,none⟩),undef,undef,Extern.Stop.cell x.2, .pointer (some ⟨pb,po,none⟩), .pointer (some ⟨pb,po,none⟩),pt rb,I size, .slice (some ⟨bb,off,none⟩) size c, .func (.func 171) #[] #[.pointer (some ⟨w2.heap.size,0,none⟩)], .int .i64 (x.1:Int),Extern.Stop.cell x.2,undef,undef,undef,undef,undef,undef,undef,undef,undef],defers:= []}) ?assign ?body ?done ?stop
 case assign=>
  intro l x W K hK
  gi_wp2
  exact hK
 case body=>
  rintro l pre ⟨xi,xc⟩ W ⟨hbx,hB⟩ _;have hc:=hbx.cell;have hx1:(xc.toNat:Int)<256:=by have:=xc.toNat_lt;omega
  have hx2:(0:Int)≤xc.toNat:=by omega
  simp only [Extern.Stop.cell];have hcp:W.cell? ⟨pb,po,none⟩=some (I (wR pre)):=(hB.cell po).trans (by simp [hpo]);have hfp:=hB.gG po;have HBX:=ae hbx;have HBB:=ae hB;have hwl:w.heap.size<w2.heap.size:=by omega
  obtain ⟨u,hu⟩:∃u,wR pre=u:=⟨_,rfl⟩;rw [hu] at hcp;have HU:=ae hu;have HV:Hid (bits BinOp.or IntKind.i64 (IntKind.i64.wrap (u*256)) xc.toNat=zI u xc):=ae (by unfold zI;rw [show IntKind.i64.wrap (u*256)=wrap64 (u*256) from by rw [IntKind.wrap_i64];unfold wrap64;omega]);have hxw:IntKind.i64.wrap (xc.toNat:Int)=(xc.toNat:Int):=by rw [IntKind.wrap_i64];omega
  clear hbx hB hT2 Zd hB1 hby1 bN hcl2 hst hI0 hc0 hf0 hu Bz YR HT HT1 HBOX HW1 HP V7 HL
  gi_wp2
  gi_region
  all_goals exact U3 mG hpl hwl HBX.out HBB.out HU.out HV.out
 case done=>
  rintro D ys W hD rfl ⟨hbx,hB⟩ hK;have hc:=hbx.cell
  gi_wp2
  refine ⟨by simp, .inl ⟨_,_,rfl,run_takeDeferred hK,?_⟩⟩;refine ⟨.tuple #[],by simp [results,Tryz.results166],?_⟩;have hD2:w2.heap.size+1≤D:=by simpa using hD
  have hpo:∀k,k<w2.heap.size→(W.putObj D (.deferred none)).heap[k]? =W.heap[k]? :=fun k hk=>World.putObj_heap_other (by omega);refine ⟨rfl,YR.out.of ((hpo rb (by omega)).trans (hB.block rb (by omega) (fun e=>hne e.symm))) (fun k hk=>(hpo k (by omega)).trans (hB.block k (by omega) (by omega))),?_⟩;rw [V7.out];have hT1:=HT1.out;refine ⟨hB.os.trans (HK.out.os.trans hT1.os),hB.tape.trans (HK.out.tape.trans hT1.tape),hB.output.trans (HK.out.output.trans hT1.output),?_,fun k hk h2 h3=>?_,?_⟩
  ·have h1:=hB.size;simp only [World.putObj,Array.size_setIfInBounds];omega
  ·exact (hpo k (by omega)).trans ((hB.block k (by omega) h2).trans ((HK.out.block k (by omega) h3).trans (hT1.block k hk h2)))
  ·refine (hpo pb (by omega)).trans ?_;exact hB.tgt
 case stop=>
  rintro D c pre W _ _ h _;exact h.elim
end Go.Proofs.YtdibbemgpikgjaaGreat
namespace Go.Proofs.YtdibbemgpikgjaaGreat
open Go Go.RowKit
theorem zJ (w:World) (base:Nat) (ty:TypeId) (v:Value) (n:Nat) (xs:List Value) (hown:w.ownsRow base 5 1 v n xs) (s:ByteArray) (hlen:n+s.size≤1000000000000) (hbase:base≤w.heap.size):
  ∃v' w',(Builtin.append_ #[22,9] ty #[v, .string s]).run Tryz.prog w= .ok v' w'∧w'.ownsRow base 5 1 v' (n+s.size) (xs++Lib.strCells s)∧w.grownBy w' v.ownBlock∧(v'.ownBlock=v.ownBlock∨v'.ownBlock=some w.heap.size):=by
 obtain ⟨i0,hi,hz0,hz1,hz2⟩:=info_parts lZ;obtain ⟨v',w',hr,h2,h3,h4⟩:=Lib.run_append_own_string (P:=Tryz.prog) w base 22 9 ty 5 i0 Tryz.underlying22 Tryz.underlying9 hi hz0 hz1 hz2 v n xs hown s (by unfold maxLen;omega) (by omega) hbase;refine ⟨v',w',hr,h2,h3,?_⟩;have hxl:xs.length=n:=by simpa using hown.1
 rcases hown.2 with ⟨rfl,rfl⟩|⟨g,cap,cur,rfl,hbg,hg,hnc,hcm,hcs,htake⟩
 ·by_cases h0:s.size=0
  ·left;rw [h4.2 ⟨rfl,h0⟩]
  ·right;have hr':=run_append_nil_string (P:=Tryz.prog) w 22 9 ty 5 i0 (.int .u8 0) Tryz.underlying22 Tryz.underlying9 hi hz0 s (by omega) (by omega) (by rw [hz2];omega);rw [hr] at hr';injection hr' with hv _;rw [hv];rfl
 ·by_cases hroom:n+s.size≤cap
  ·left;have hr':=Lib.run_append_room_string (P:=Tryz.prog) w 22 9 ty 5 i0 Tryz.underlying22 Tryz.underlying9 hi hz1 g n cap cur hg s hroom (by omega);rw [hr] at hr';injection hr' with hv _;rw [hv];rfl
  ·right;have holds:∀j u,xs[j]? =some u→w.cell? ((⟨g,0,none⟩:Addr).add j)=some u:=hown.cells (g:=g) rfl;have hr':=Lib.run_append_grow_string (P:=Tryz.prog) w 22 9 ty 5 i0 (.int .u8 0) Tryz.underlying22 Tryz.underlying9 hi hz0 ⟨g,0,none⟩ n cap xs (by rw [hz1];omega) holds s (by omega) (by omega) (by rw [hz2];exact growslice_fits (by omega) (by omega));rw [hr] at hr';injection hr' with hv _;rw [hv];rfl
theorem DV {ops:Array Oper} {rest:List Oper} {o:Oper} {a:Act} {Q:Exit→Act→World→Prop} {w:World} (hgd:o.guard=none) (sl x:Operand)
  (ho:o.op= .call {callee:= .builtin .append,args:= #[sl,x],argTypes:= #[22,9]}) (base:Nat) (v:Value) (n:Nat) (xs:List Value) (hs:a.eval sl=v) (hown:w.ownsRow base 5 1 v n xs) (s:ByteArray) (hx:a.eval x= .string s)
  (hlen:n+s.size≤1000000000000) (hbase:base≤w.heap.size)
  (h:∀v' w',w'.ownsRow base 5 1 v' (n+s.size) (xs++Lib.strCells s)→w.grownBy w' v.ownBlock→(v'.ownBlock=v.ownBlock∨v'.ownBlock=some w.heap.size)→wpList Tryz.prog ops Q rest (a.put o.dst v') w'):wpList Tryz.prog ops Q (o::rest) a w:=by
 refine wpList_plain hgd fun K hK=>?_;obtain ⟨v',w',hr,h2,h3,h4⟩:=zJ w base o.type v n xs hown s hlen hbase;unfold Oper.wp execOp;simp only [ho,resolve,invoke,builtin,Sem.run_bind,Sem.run_pure,Result.andThen_ok,List.map_toArray,List.map_cons,List.map_nil,hs,hx,hr];exact hK _ _ (h v' w' h2 h3 h4)
theorem Hl {ops:Array Oper} {o:Oper} {a:Act} {Q:Exit→Act→World→Prop} {K:Act→World→Prop} {E:Prop} {w:World} (hgd:o.guard=none) (sl x:Operand)
  (ho:o.op= .call {callee:= .builtin .append,args:= #[sl,x],argTypes:= #[22,9]}) (base:Nat) (v:Value) (n:Nat) (xs:List Value) (hs:a.eval sl=v) (hown:w.ownsRow base 5 1 v n xs) (s:ByteArray) (hx:a.eval x= .string s)
  (hlen:n+s.size≤1000000000000) (hbase:base≤w.heap.size) (hpos:0<n+s.size)
  (h:∀g' cap' w',w'.ownsRow base 5 1 (.slice (some ⟨g',0,none⟩) (n+s.size) cap') (n+s.size) (xs++Lib.strCells s)→w.grownBy w' v.ownBlock→((Value.slice (some ⟨g',0,none⟩) (n+s.size) cap').ownBlock=v.ownBlock∨(Value.slice (some ⟨g',0,none⟩) (n+s.size) cap').ownBlock=some w.heap.size)→K (a.put o.dst (.slice (some ⟨g',0,none⟩) (n+s.size) cap')) w'):if Region.wanted o (yielded ops a.tmps)=true then Oper.wp Tryz.prog o a w K Q else E:=by
 have hw:Region.wanted o (yielded ops a.tmps)=true:=by simp [Region.wanted,hgd]
 rw [if_pos hw];obtain ⟨v',w',hr,h2,h3,h4⟩:=zJ w base o.type v n xs hown s hlen hbase;obtain ⟨g',cap',rfl,_⟩:=eU h2 hpos;unfold Oper.wp execOp;simp only [ho,resolve,invoke,builtin,Sem.run_bind,Sem.run_pure,Result.andThen_ok,List.map_toArray,List.map_cons,List.map_nil,hs,hx,hr];exact h _ _ _ h2 h3 h4
theorem zH (w:World) (bb off c:Nat) (s:ByteArray) (h:∀j,j<s.size→w.cell? ⟨bb,off+j,none⟩=some (Extern.Stop.cell (s.data.toList[j]?.getD 0))):
  (convert 22 9 (.slice (some ⟨bb,off,none⟩) s.size c)).run Tryz.prog w= .ok (.string s) w:=by
 have e:strOfNums (s.data.toList.map fun (b:UInt8)=>((b.toNat:Nat):Int))=s:=by
  unfold strOfNums;rw [List.map_map];have:((fun n:Int=>UInt8.ofNat n.toNat) ∘ fun (b:UInt8)=>((b.toNat:Nat):Int))=id:=by
   funext b;simp
  rw [this,List.map_id]
 have hl:s.data.toList.length=s.size:=Array.length_toList;have hr:=run_convert_bytes_arg (P:=Tryz.prog) w 22 5 Tryz.underlying22 Tryz.underlying5 bb off s.size c (s.data.toList.map fun (b:UInt8)=>((b.toNat:Nat):Int)) (by rw [List.length_map,hl]) (fun i hi=>by
  rw [h i hi];have hx:s.data.toList[i]? =some s.data.toList[i]:=dK (by omega);rw [hx,List.getD_eq_getElem?_getD,List.getElem?_map,hx];rfl) 9 Tryz.underlying9
 rw [e] at hr;exact hr
theorem bD.trans {w w1 w2:World} {rb pb:Nat} {t:TypeId} {cs cs2:Array Value} (h:bD w rb pb t cs w1) (k:bD w1 rb pb t cs2 w2):bD w rb pb t cs2 w2:=
 ⟨k.os.trans h.os,k.tape.trans h.tape,k.output.trans h.output,Nat.le_trans h.size k.size,fun b hb h1 h2=>(k.block b (dS hb h.size) h1 h2).trans (h.block b hb h1 h2),k.tgt⟩
theorem bD.refl {w:World} {rb pb:Nat} {t:TypeId} {cs:Array Value} (h:w.heap[pb]? =some (.cells cs t (0,0))):bD w rb pb t cs w:=⟨rfl,rfl,rfl,Nat.le_refl _,fun _ _ _ _=>rfl,h⟩
theorem bD.jZ {w w1 w2:World} {rb pb:Nat} {t:TypeId} {cs:Array Value} (h:bD w rb pb t cs w1) (hk:iT rb w1 w2) (hl:pb<w1.heap.size) (hne:pb≠rb):bD w rb pb t cs w2:=
 ⟨hk.os.trans h.os,hk.tape.trans h.tape,hk.output.trans h.output,Nat.le_trans h.size hk.size,fun b hb h1 h2=>(hk.block b (dS hb h.size) h2).trans (h.block b hb h1 h2),(hk.block pb hl hne).trans h.tgt⟩
theorem bD.grow {w w1 w2:World} {rb pb:Nat} {t:TypeId} {cs:Array Value} (h:bD w rb pb t cs w1) (hb:Below w1.heap.size w1 w2) (hl:pb<w1.heap.size) (hne:pb≠rb):bD w rb pb t cs w2:=h.jZ (iT.of_below hb) hl hne
theorem bD.put {w w1:World} {rb pb:Nat} {t:TypeId} {cs:Array Value} (h:bD w rb pb t cs w1) (o:Nat) (v:Value):bD w rb pb t (cs.setIfInBounds o v) (w1.setCell ⟨pb,o,none⟩ v):=
 ⟨h.os,h.tape,h.output,by simpa [World.setCell] using h.size,fun b hb h1 h2=>(heap_setCell_other w1 _ b v h1).trans (h.block b hb h1 h2),heap_setCell_same w1 pb o _ _ _ h.tgt⟩
theorem bD.drew {w w1:World} {rb pb:Nat} {t:TypeId} {cs:Array Value} (h:bD w rb pb t cs w1):bD w rb pb t cs w1.drew:=⟨h.os,h.tape,h.output,h.size,h.block,h.tgt⟩
theorem bD.bz {w w1:World} {rb pb:Nat} {t:TypeId} {cs:Array Value} (h:bD w.drew rb pb t cs w1):bD w rb pb t cs w1:=⟨h.os,h.tape,h.output,h.size,h.block,h.tgt⟩
theorem bD.cell {w w1:World} {rb pb:Nat} {t:TypeId} {cs:Array Value} (h:bD w rb pb t cs w1) (i:Nat):w1.cell? ⟨pb,i,none⟩=cs[i]? :=cell_of_row w1 pb i _ _ _ h.tgt
theorem bD.gG {w w1:World} {rb pb:Nat} {t:TypeId} {cs:Array Value} (h:bD w rb pb t cs w1) (i:Nat):w1.frozen? ⟨pb,i,none⟩=false:=frozen_of_row w1 pb i _ _ h.tgt
theorem fQ.put {M pb o:Nat} {w:World} {rb:Nat} {rest:List UInt8} (h:fQ M w rb rest) (hp:M≤pb) (hne:pb≠rb) (v:Value):fQ M (w.setCell ⟨pb,o,none⟩ v) rb rest:=
 h.of (heap_setCell_other w _ rb v (fun e=>hne e.symm)) fun k hk=>heap_setCell_other w _ k v (by show k≠pb;omega)
def E5 (M:Nat) (w:World) (rb pb po:Nat) (t:TypeId) (cs:Array Value) (n:Int) (R:List UInt8) (e:Ending) (w':World):Prop:=
 e= .returned (.tuple #[])∧fQ M w' rb R∧bD w rb pb t (cs.setIfInBounds po (I n)) w'
theorem iY (M:Nat) (w:World) (rb pb po size:Nat) (t:TypeId) (cs:Array Value) (n v:Int) (R:List UInt8) (hr:fQ M w rb (le n size++R)) (h8:size≤8) (hv:AA (le n size++R) false size=v) (hp:w.heap[pb]? =some (.cells cs t (0,0))) (hpo:po<cs.size) (mG:M≤pb) (hne:pb≠rb):
  Calls Tryz.prog 166 #[pt rb, .pointer (some ⟨pb,po,none⟩),I size] w (E5 M w rb pb po t cs v R):=
 (rX M w rb pb po size t cs _ hr h8 (by rw [bF,aA];omega) hp hpo mG hne).mono fun e w' ⟨h1,h2,h3⟩=>by
  rw [Bc] at h2;rw [hv] at h3;exact ⟨h1,h2,h3⟩
theorem hvs2 (x:Int):wrap64 (hvs 0 (upto (bk (le x 2)) 2))=x%65536:=by
 have e:hvs 0 (upto (bk (le x 2)) 2)=((0*256+((byteOf (x / 256)).toNat:Int))*256+((byteOf x).toNat:Int)):=rfl;rw [e];simp only [lG];unfold wrap64;omega
theorem O5 (x:Int) (R:List UInt8):AA (le x 2++R) false 2=x%65536:=by
 unfold AA wR;rw [(Hq x 2 R).1,aA,OE _ 0 0 (by unfold wrap64;omega)];exact hvs2 x
def SK (M:Nat) (w:World) (rb:Nat) (n:Int) (R:List UInt8) (e:Ending) (w':World):Prop:=e= .returned (I n)∧fQ M w' rb R∧iT rb w w'
theorem kH (M:Nat) (w:World) (rb size:Nat) (m n v:Int) (R:List UInt8) (hr:fQ M w rb (le n size++R)) (h8:size≤8) (hv:AA (le n size++R) false size=v):
  Calls Tryz.prog 165 #[pt rb,I m,I size] w (SK M w rb v R):=by
 have hl:=hr.lt;have hlo:=hr.lo;have hb:=ag w (.cells #[I 0] 3);have hpl:=heap_alloc_last w (.cells #[I 0] 3);have HC:=ae (iY M (w.alloc (.cells #[I 0] 3)) rb w.heap.size 0 size 3 #[I 0] n v R (hr.below hb hl) h8 hv hpl (by decide) (by omega) (by omega));have HB:=ae hb;clear hr hb hpl hv;go_enter Tryz.func165,Tryz.ntmps165;go_wp2_with fail;refine HC.out.mono ?_;rintro e w1 ⟨rfl,hr1,hp1⟩;have hc1:w1.cell? ⟨w.heap.size,0,none⟩=some (I v):=hp1.cell 0;have HR1:=ae hr1;have gK:Hid (iT rb w w1):=ae ⟨hp1.os,hp1.tape,hp1.output,by have:=hp1.size;simp at this;omega,fun k hk hkr=>(hp1.block k (by simp;omega) (by omega) hkr).trans (HB.out.block k hk)⟩;clear hr1 hp1 HC;go_wp2_with fail;go_ret;exact ⟨rfl,HR1.out,gK.out⟩
theorem uX (n:Int):IntKind.i16.wrap n=(n+32768)%65536 - 32768:=by
 simp [IntKind.wrap,IntKind.bits,IntKind.signed];omega
theorem zS (M:Nat) (w:World) (rb pb po:Nat) (t:TypeId) (cs:Array Value) (n:Int) (R:List UInt8) (hr:fQ M w rb (le n 2++R)) (hn0: -32768≤n) (hn1:n≤32767) (hp:w.heap[pb]? =some (.cells cs t (0,0))) (hpo:po<cs.size) (mG:M≤pb) (hne:pb≠rb):
  Calls Tryz.prog 167 #[pt rb, .pointer (some ⟨pb,po,none⟩)] w (E5 M w rb pb po t cs n R):=by
 obtain ⟨u,hu⟩:∃u,n%65536=u:=⟨_,rfl⟩;have HC:=ae (iY M w rb pb po 2 t cs n u R hr (by omega) ((O5 n R).trans hu) hp hpo mG hne);have hu0:0≤u:=by omega
 have hu1:u<65536:=by omega
 have hw16:IntKind.i16.wrap u=n:=by
  rw [uX];omega
 clear hr hp;go_enter Tryz.func167,Tryz.ntmps167;go_wp2_with fail;refine HC.out.mono ?_;rintro e w1 ⟨rfl,hr1,hp1⟩;have hc1:w1.cell? ⟨pb,po,none⟩=some (I u):=(hp1.cell po).trans (by simp [hpo]);have hf1:=hp1.gG po;have HR1:=ae (hr1.put (o:=po) mG hne (I n));have lU:=ae (hp1.put po (I n));clear hr1 hp1 HC hu;go_wp2_with fail
 go_end0
 exact ⟨rfl,HR1.out,by have h:=lU.out;rwa [Array.setIfInBounds_setIfInBounds] at h⟩
theorem XV {w:World} {b o:Nat} {xs:List UInt8} (h:∀j,j<32→w.cell? ⟨b,o+j,none⟩=some (Extern.Stop.cell (xs[j]?.getD 0))) (hl:(au xs).length=32):∀j u,(au xs)[j]? =some u→w.cell? ((⟨b,o,none⟩:Addr).add j)=some u:=fun j u hu=>by
 have hj:=(iP.1 hu).1;rw [Addr.add_mid,h j (by omega)];unfold au at hu hl hj;rw [List.length_map] at hl hj;rw [List.getElem?_map,dK (by omega)] at hu;rw [dK (by omega)];simpa using hu
def Y7 (M:Nat) (w:World) (rb pb po:Nat) (t:TypeId) (cs:Array Value) (v:Value) (R:List UInt8) (e:Ending) (w':World):Prop:=
 e= .returned (.tuple #[])∧fQ M w' rb R∧bD w rb pb t (cs.setIfInBounds po v) w'
theorem F6 (M:Nat) (w:World) (rb pb po:Nat) (t:TypeId) (cs:Array Value) (s0 s:ByteArray) (R:List UInt8) (hr:fQ M w rb ((le s.size 1++s.data.toList)++R)) (hs:s.size<256) (hp:w.heap[pb]? =some (.cells cs t (0,0))) (hpo:cs[po]? =some (.string s0)) (mG:M≤pb) (hne:pb≠rb):
  Calls Tryz.prog 168 #[pt rb, .pointer (some ⟨pb,po,none⟩)] w (Y7 M w rb pb po t cs (.string s) R):=by
 rw [List.append_assoc] at hr;have hpl:pb<w.heap.size:=(bY.1 hp).1;have HC:=ae (kH M w rb 1 0 s.size s.size (s.data.toList++R) hr (by omega) (iG _ (by omega) (by omega) _));have HP:=ae hp;have HPO:=ae hpo;have HL:=ae (show s.data.toList.length=s.size from Array.length_toList);clear hr hp hpo;go_enter Tryz.func168,Tryz.ntmps168;go_wp2_with fail;refine HC.out.mono ?_;rintro e w1 ⟨rfl,hr1,hk1⟩;have HR1:=ae hr1;have gK:=ae hk1;have hs1:=hk1.size;clear hr1 hk1 HC;go_wp2_with fail;refine (rZ M w1 rb s.size (s.data.toList++R) HR1.out (by rw [bF,HL.out];omega)).mono ?_;rintro e w2 ⟨bb,off,c,rfl,hc1,hc2,hbM,hby,hr2,hk2⟩;have e1:(s.data.toList++R).take s.size=s.data.toList:=by rw [←HL.out,List.take_append_of_le_length (Nat.le_refl _),List.take_of_length_le (Nat.le_refl _)]
 have e2:(s.data.toList++R).drop s.size=R:=by rw [←HL.out,List.drop_append_of_le_length (Nat.le_refl _),List.drop_of_length_le (Nat.le_refl _)];rfl
 rw [e1] at hby;rw [e2] at hr2;have hcv:=zH w2 bb off c s hby;have hp2:w2.heap[pb]? =some (.cells cs t (0,0)):=(hk2.block pb (by omega) hne).trans ((gK.out.block pb hpl hne).trans HP.out);have hcp:w2.cell? ⟨pb,po,none⟩=some (.string s0):=(cell_of_row w2 pb po _ _ _ hp2).trans HPO.out;have hfp:=frozen_of_row w2 pb po _ _ hp2;have HR2:=ae (hr2.put (o:=po) mG hne (.string s));have HP2:Hid (bD w rb pb t (cs.setIfInBounds po (.string s)) (w2.setCell ⟨pb,po,none⟩ (.string s))):=ae ((((bD.refl HP.out).jZ gK.out hpl hne).jZ hk2 (by omega) hne).put po (.string s));clear hby hr2 hk2 e1 e2 hp2;go_wp2_with fail
 go_end0
 exact ⟨rfl,HR2.out,HP2.out⟩
def putRow (cs:Array Value) (o:Nat) (vs:List Value):Array Value:=(splice cs.toList o vs).toArray
theorem uD (M:Nat) (w:World) (rb pb po:Nat) (t:TypeId) (cs:Array Value) (xs R:List UInt8) (hr:fQ M w rb (xs++R)) (h32:xs.length=32) (hp:w.heap[pb]? =some (.cells cs t (0,0))) (hpo:po+32≤cs.size) (mG:M≤pb) (hne:pb≠rb):
  Calls Tryz.prog 163 #[pt rb, .pointer (some ⟨pb,po,none⟩)] w fun e w'=>e= .returned (.tuple #[])∧fQ M w' rb R∧bD w rb pb t (putRow cs po (au xs)) w':=by
 have hpl:pb<w.heap.size:=(bY.1 hp).1;have HC:=ae (rZ M w.drew rb 32 (xs++R) hr.drew (by rw [bF,h32];omega));have HP:=ae hp;have HX:Hid ((au xs).length=32):=ae (by simp [au,h32]);have HE:Hid ((xs++R).take 32=xs∧(xs++R).drop 32=R):=ae ⟨by rw [←h32,List.take_append_of_le_length (Nat.le_refl _),List.take_of_length_le (Nat.le_refl _)],by rw [←h32,List.drop_append_of_le_length (Nat.le_refl _),List.drop_of_length_le (Nat.le_refl _)];rfl⟩;clear hr hp h32;go_enter Tryz.func163,Tryz.ntmps163;go_wp2_with fail
 go_region_law (first|(go_simp;go_at_call 169;refine HC.out.mono ?_;rintro e w5 ⟨b5,o5,c5,rfl,hl5,hm5,hbM,hb5,tq,hk5⟩;rw [HE.out.1] at hb5;rw [HE.out.2] at tq;have qJ:=ae tq;have zq:=ae hk5;have oN:Hid (∀j u,(au xs)[j]? =some u→w5.cell? ((⟨b5,o5,none⟩:Addr).add j)=some u):=ae (XV hb5 HX.out);have EU:Hid (w5.heap[pb]? =some (.cells cs t (0,0))):=ae ((hk5.block pb hpl hne).trans HP.out);clear hb5 tq hk5)|(refine EF (by rfl) _ _ _ _ (by rfl) 5 Tryz.underlying22 (by kernel_rfl) pb po 32 32 ⟨b5,o5,none⟩ 32 c5 (by rfl) (by rfl) cs t EU.out (au xs) (by rw [HX.out];rfl) oN.out (by rw [HX.out];exact hpo) (UJ xs) (putRow cs po (au xs)) rfl ?_))
 all_goals
  have H6:Hid (fQ M (w5.setRow pb (putRow cs po (au xs))) rb R):=ae (qJ.out.of (setRow_other _ _ _ _ (fun e=>hne e.symm)) fun k hk=>setRow_other _ _ _ _ (by omega));have H7:Hid (bD w rb pb t (putRow cs po (au xs)) (w5.setRow pb (putRow cs po (au xs)))):=ae ⟨zq.out.os,zq.out.tape,zq.out.output,by simpa [World.setRow] using zq.out.size,fun k hk h1 h2=>(setRow_other _ _ k _ h1).trans (zq.out.block k hk h2),setRow_heap _ _ _ _ _ _ EU.out⟩;go_wp2_with fail
  go_end0
  exact ⟨rfl,H6.out,H7.out⟩
theorem vO (a:Nat) (ha:a≤1000000) (w:World):Calls Tryz.prog 83 #[I a] w fun e w'=>e= .returned (.int .u64 a)∧w'=w:=by
 have h0:¬(a:Int)<0:=by omega
 have hw:IntKind.u64.wrap (a:Int)=a:=by rw [IntKind.wrap_u64];omega
 go_enter Tryz.func83,Tryz.ntmps83
 go_wp2
 go_ret;exact ⟨rfl,rfl⟩
def UA:Value→Nat
 | .int _ n=>n.toNat
 |_=>0
theorem WY (a b:Nat) (ha:a≤1000000) (hb:b≤1000000) (w:World):Calls Tryz.prog 56 #[I a,I b] w fun e w'=>e= .returned (I (Nat.gcd a b))∧∃m,w'=w.drewN m:=by
 go_enter Tryz.func56,Tryz.ntmps56;go_wp2_with fail;refine (vO a ha _).mono ?_;rintro e w1 ⟨rfl,rfl⟩;go_wp2_with fail;refine (vO b hb _).mono ?_;rintro e w2 ⟨rfl,rfl⟩;go_wp2_with fail
 go_loopw [5,6] (fun u v wr=>∃x y:Nat,u= .int .u64 x∧v= .int .u64 y∧x≤1000000∧y≤1000000∧Nat.gcd x y=Nat.gcd a b∧∃m,wr=w2.drewN m) (fun _ v _=>UA v)
 case atStart=>exact ⟨a,b,rfl,rfl,ha,hb,rfl,0,rfl⟩
 case round=>
  obtain ⟨x,y,rfl,rfl,hx,hy,hg,mq,rfl⟩:=hrel;have HG:=ae hg;clear hg;by_cases hy0:y=0
  ·subst hy0;have hq:¬(9223372036854775807:Int)<(x:Int):=by omega
   have hw:IntKind.i64.wrap (x:Int)=x:=by rw [IntKind.wrap_i64];omega
   go_wp2_with fail;go_ret;refine ⟨?_,mq,rfl⟩;have:=HG.out;rw [Nat.gcd_zero_right] at this;rw [this];rfl
  ·have hy1:¬(y:Int)=0:=by omega
   have hy2:((y:Int) !=0)=true:=by simp [hy0]
   have hlt:x%y<y:=Nat.mod_lt _ (by omega);obtain ⟨z,hz⟩:∃z,x%y=z:=⟨_,rfl⟩;have hm:(x:Int)%(y:Int)=(z:Int):=by omega
   have hm2:Int.tmod (x:Int) (y:Int)=(z:Int):=by rw [Int.tmod_eq_emod_of_nonneg (by omega)];exact hm
   rw [hz] at hlt;have HZ:=ae hz;have hw:IntKind.u64.wrap (z:Int)=(z:Int):=by rw [IntKind.wrap_u64];omega
   clear hz;go_wp2_with fail;go_quiet (fail);go_wp2_with fail;go_roundw
   case rel=>exact ⟨y,z,rfl,by first|rfl|go_num,hy,by omega,by rw [←HG.out,Nat.gcd_comm x y,Nat.gcd_rec y x,Nat.gcd_comm,HZ.out],_,World.drewN_drewN _ _ _⟩
   case measure=>simp [UA];omega
theorem Xl (a b:Nat) (ha:1≤a) (ha2:a≤100000) (hb:1≤b) (hb2:b≤100000) (w:World):Calls Tryz.prog 33 #[I a,I b] w fun e w'=>e= .returned (.tuple #[I (Nat.lcm a b),I 0])∧∃m,w'=w.drewN m:=by
 have HG:=ae (WY a b (by omega) (by omega) w);have h1:¬(a:Int)<1:=by omega
 have h2:¬(b:Int)<1:=by omega
 have uP:0<Nat.gcd a b:=Nat.gcd_pos_of_pos_left _ ha;have hl:a / Nat.gcd a b*b=Nat.lcm a b:=by
  have e:=Nat.lcm_eq_mul_div a b;rw [e,Nat.div_mul_right_comm (Nat.gcd_dvd_left a b)]
 obtain ⟨g,hg⟩:∃g,Nat.gcd a b=g:=⟨_,rfl⟩;rw [hg] at HG uP hl;obtain ⟨r,hr⟩:∃r,a / g=r:=⟨_,rfl⟩;have hr4:r≤100000:=by rw [←hr];exact Nat.le_trans (Nat.div_le_self _ _) ha2
 have hq:Int.tdiv (a:Int) (g:Int)=(r:Int):=by rw [←hr];rfl
 have hq':(a:Int) / (g:Int)=(r:Int):=by rw [←hr];rfl
 obtain ⟨t,ht⟩:∃t,1099511627776 / b=t:=⟨_,rfl⟩;have ht4:100000≤t:=by rw [←ht,Nat.le_div_iff_mul_le (by omega)];omega
 have hq2:Int.tdiv 1099511627776 (b:Int)=(t:Int):=by rw [←ht];rfl
 have hq2':(1099511627776:Int) / (b:Int)=(t:Int):=by rw [←ht];rfl
 have hbig:¬(t:Int)<(r:Int):=by omega
 have hwr:IntKind.i64.wrap (r:Int)=r:=by rw [IntKind.wrap_i64];omega
 have ht5:t≤1099511627776:=by rw [←ht];exact Nat.div_le_self _ _
 have hwt:IntKind.i64.wrap (t:Int)=t:=by rw [IntKind.wrap_i64];omega
 rw [hr] at hl;have hp:(r:Int)*(b:Int)=((Nat.lcm a b:Nat):Int):=by rw [←hl];exact (Int.natCast_mul r b).symm
 have hlb:Nat.lcm a b≤10000000000:=by rw [←hl];exact Nat.mul_le_mul hr4 hb2
 obtain ⟨m,hm⟩:∃m,Nat.lcm a b=m:=⟨_,rfl⟩;rw [hm] at hp hlb ⊢;have hwm:IntKind.i64.wrap (m:Int)=m:=by rw [IntKind.wrap_i64];omega
 have hg0:¬(g:Int)=0:=by omega
 have hb0:¬(b:Int)=0:=by omega
 clear hr ht hl hm hg;go_enter Tryz.func33,Tryz.ntmps33;go_wp2_with fail;refine HG.out.mono ?_;rintro e w1 ⟨rfl,mq,rfl⟩;go_wp2_with fail;go_ret2;exact ⟨rfl,mq,rfl⟩
structure Lr where
 every:Int
 rest:Int
 yes:Bool
theorem OJ (a b:Nat) (ha:1≤a) (ha2:a≤400) (hb:1≤b) (hb2:b≤400) (w:World):Calls Tryz.prog 33 #[I a,I b] w fun e w'=>e= .returned (.tuple #[I (Nat.lcm a b),I 0])∧Below w.heap.size w w':=
 (Xl a b ha (by omega) hb (by omega) w).mono fun _ _ ⟨h1,m,h2⟩=>⟨h1,by rw [h2];exact below_drewN' _ _⟩
def Lr.cells (r:Lr):List Value:= [I r.every,I r.rest, .bool r.yes]
def Oi (w:World) (B:Nat) (A:Option Addr) (rs:List Lr):Prop:=
 rs.length=0∨∃b,A=some ⟨b,0,none⟩∧b<B∧∀k x,rs[k]? =some x→w.rangeAt b (k*3) x.cells
theorem Oi.keep {w w':World} {B:Nat} {A:Option Addr} {rs:List Lr} (h:Oi w B A rs) (hb:Below B w w'):Oi w' B A rs:=by
 rcases h with h|⟨b,h1,h2,h3⟩
 ·exact .inl h
 ·exact .inr ⟨b,h1,h2,fun k x hx=>aW (h3 k x hx) hb h2⟩
def SG:Nat→List Lr→Prop
 |_,[]=>True
 |y,r::rs=>∃e:Nat,r.every=e∧1≤e∧e≤400∧0≤r.rest∧r.rest<e∧1≤Nat.lcm y e∧Nat.lcm y e≤400∧SG (Nat.lcm y e) rs
theorem Nh (A:Option Addr) (n c:Nat) (rs:List Lr) (w:World) (hA:Oi w w.heap.size A rs) (hl:rs.length=n) (hn:n≤1000) (hp:SG 1 rs):
  Calls Tryz.prog 74 #[.slice A n c] w fun e w'=>(∃y,e= .returned (.tuple #[I y, .bool true]))∧Below w.heap.size w w':=by
 have HA:=ae hA;have HL:=ae hl;have HP:=ae hp;clear hA hl hp;go_enter Tryz.func74,Tryz.ntmps74;go_wp2_with fail
 go_loopw [4,11] (fun u i wr=>∃k y:Nat,k≤n∧i=I k∧u=I y∧1≤y∧y≤400∧SG y (rs.drop k)∧Below w.heap.size w wr) (fun _ i _=>n - (intOf i).toNat)
 case atStart=>exact ⟨0,1,Nat.zero_le _,rfl,rfl,by omega,by omega,by simpa using HP.out,Below.refl _ _⟩
 case round=>
  obtain ⟨k,y,hk,rfl,rfl,hy1,hy2,hper,hbe⟩:=hrel;have ZM:=ae hbe;by_cases hlt:k<n
  ·have i0:(0:Int)≤(k:Int):=by omega
   have i1:(k:Int)<(n:Int):=by omega
   have hkl:k<rs.length:=by rw [HL.out];exact hlt
   rw [List.drop_eq_getElem_cons hkl] at hper;obtain ⟨e,he,h1,h2,h3,h4,h5,h6,h7⟩:=hper;have hx:rs[k]? =some rs[k]:=dK hkl;rcases (HA.out.keep hbe) with h|⟨b,rfl,hb,hc⟩
   ·omega
   have hr:=hc k _ hx;have hbl:b<wr.heap.size:=dS hb hbe.size;generalize rs[k]=rk at he h3 h4 hr;obtain ⟨ev,re,ye⟩:=rk;simp only at he h3 h4;subst he;have f0:wr.cell? ⟨b,k*3,none⟩=some (I e):=hr 0 _ rfl;have f1:wr.cell? ⟨b,k*3+1,none⟩=some (I re):=hr 1 _ rfl;have f2:wr.cell? ⟨b,k*3+2,none⟩=some (.bool ye):=hr 2 _ rfl;have hne:¬b=wr.heap.size:=by omega
   have q1:¬(e:Int)<1:=by omega
   have q2:¬(400:Int)<(e:Int):=by omega
   have q3:¬re<0:=by omega
   have q4:¬(e:Int)≤re:=by omega
   have H7:=ae h7;have HB2:=ae (ag wr (.cells #[I e,I re, .bool ye] 134));clear hr hc hx hbe h7;go_wp2_with fail;refine (OJ y e hy1 hy2 h1 h2 _).mono ?_;rintro x w5 ⟨rfl,hb5⟩;have oN:=ae (ah HB2.out hb5);obtain ⟨m,hm⟩:∃m,Nat.lcm y e=m:=⟨_,rfl⟩;rw [hm] at h5 h6 H7 ⊢;have q5:¬(400:Int)<(m:Int):=by omega
   clear hb5 hm;go_wp2_with fail;go_roundw
   case rel=>exact ⟨k+1,m,by omega,by go_num,rfl,h5,h6,H7.out,ah ZM.out oN.out⟩
   case measure=>simp [intOf];omega
  ·clear hper hbe;go_wp2_with fail;go_ret2;exact ⟨⟨_,rfl⟩,ZM.out⟩
structure Cal where
 aI:Int
 aj:List Int
 aY:Int
 rules:List Lr
def aG (c:Cal) (A:Option Addr) (ca:Nat) (B:Option Addr) (cb:Nat):Array Value:= #[I c.aI, .slice A c.aj.length ca,I c.aY, .slice B c.rules.length cb]
attribute [local go_sem] aG
end Go.Proofs.YtdibbemgpikgjaaGreat
namespace Go.Proofs.YtdibbemgpikgjaaGreat
open Go Go.RowKit
structure AY (c:Cal):Prop where
 ep:0≤c.aI∧c.aI≤1048576
 mo:1≤c.aj.length∧c.aj.length≤16
 le:c.aY= -1
 ru:c.rules= []
 all:∀m∈c.aj,1≤m∧m≤40
attribute [local go_sem] aG
theorem Af (c:Cal) (A:Option Addr) (ca:Nat) (B:Option Addr) (cb:Nat) (w:World) (hA:fO w w.heap.size A c.aj) (h:AY c):
  Calls Tryz.prog 53 #[.agg (aG c A ca B cb)] w (Gives (.bool true) w):=by
 have HB0:=ae (ag w (.cells (aG c A ca B cb) 47));have HRW:=ae (Row.new w (aG c A ca B cb) 47);obtain ⟨ep,mo,le,ru⟩:=c;obtain ⟨⟨e1,e2⟩,⟨m1,m2⟩,l1,r1,hall⟩:=h;simp only at e1 e2 m1 m2 l1 r1 hall hA;subst l1 r1;have Ef:=ae (fun (w':World) (_:Below w.heap.size w w')=>Nh B 0 cb [] w' (.inl rfl) rfl (by decide) trivial);obtain ⟨b,off,rfl,hb,hc⟩:∃b off,A=some ⟨b,off,none⟩∧b<w.heap.size∧∀j,j<mo.length→w.cell? ⟨b,off+j,none⟩=some (I (mo[j]?.getD 0)):=by
  rcases hA with h|h
  ·omega
  ·exact h
 have HC:=ae hc;have lQ:=ae (fun k (hk:k<mo.length)=>hall _ (List.getElem_mem hk));have q1:¬ep<0:=by omega
 have q2:¬(1048576:Int)<ep:=by omega
 obtain ⟨n,hn⟩:∃n,mo.length=n:=⟨_,rfl⟩;have q3:¬(n:Int)<1:=by omega
 have q4:¬(16:Int)<(n:Int):=by omega
 have q6:¬(n:Int)≤ -1:=by omega
 have hne:¬b=w.heap.size:=by omega
 have HN:=ae hn;have e0:(aG ⟨ep,mo, -1,[]⟩ (some ⟨b,off,none⟩) ca B cb)= #[I ep, .slice (some ⟨b,off,none⟩) n ca,I (-1), .slice B 0 cb]:=by rw [←hn];rfl
 rw [e0] at HB0 HRW ⊢;clear hc hall hA e0 hn;go_enter Tryz.func53,Tryz.ntmps53;go_wp2_with fail
 go_loopw [52] (fun i wr=>∃k:Nat,k≤n∧i=I k∧wr=w.alloc (.cells #[I ep, .slice (some ⟨b,off,none⟩) n ca,I (-1), .slice B 0 cb] 47)) (fun i _=>n - (intOf i).toNat)
 case atStart=>exact ⟨0,Nat.zero_le _,rfl,rfl⟩
 case round=>
  obtain ⟨k,hk,rfl,rfl⟩:=hrel;by_cases hlt:k<n
  ·have i0:(0:Int)≤(k:Int):=by omega
   have i1:(k:Int)<(n:Int):=by omega
   have hkm:k<mo.length:=by rw [HN.out];exact hlt
   have c1:=HC.out k hkm;have hz:=lQ.out k hkm;rw [dK hkm] at c1;generalize mo[k]=z at c1 hz;have c2:w.cell? ⟨b,off+k,none⟩=some (I z):=c1;have q9:¬z<1:=by omega
   have q10:¬(40:Int)<z:=by omega
   clear c1 hz;go_wp2_with fail;go_roundw
   case rel=>exact ⟨k+1,by omega,by go_num,by first|trivial|rfl⟩
   case measure=>simp [intOf];omega
  ·go_wp2_with fail;refine (Ef.out _ HB0.out).mono ?_;rintro x w5 ⟨⟨y,rfl⟩,hb5⟩;have oN:=ae (ah HB0.out hb5);clear hb5;go_wp2_with fail;go_ret;exact ⟨rfl,oN.out⟩
end Go.Proofs.YtdibbemgpikgjaaGreat
namespace Go.Proofs.YtdibbemgpikgjaaGreat
open Go Go.RowKit
structure Tr where
 at_:Int
 off:Int
structure Yr where
 month:Int
 di:Int
 dm:Int
 minute:Int
 off:Int
structure Zn where
 cal:Cal
 start:Int
 trans:List Tr
 hor:Int
 az:List Yr
structure Zs where
 A:Option Addr
 a:Nat
 B:Option Addr
 b:Nat
 C:Option Addr
 c:Nat
 D:Option Addr
 d:Nat
def ax (z:Zn) (s:Zs):Array Value:= #[I z.cal.aI, .slice s.A z.cal.aj.length s.a,I z.cal.aY, .slice s.B z.cal.rules.length s.b,I z.start, .slice s.C z.trans.length s.c,I z.hor, .slice s.D z.az.length s.d]
structure ig (z:Zn):Prop where
 cal:AY z.cal
 start: -1080≤z.start∧z.start≤1080
 trans:z.trans= []
 hor: -2251799813685248≤z.hor∧z.hor≤2251799813685248
 az:z.az= []
theorem zZ (n l:Int) (w:World) (hl:0≤l∧l≤4503599627370496):Calls Tryz.prog 31 #[I n,I l] w fun e w'=>e= .returned (.bool (decide (-l≤n)&&decide (n≤l)))∧w'=w:=by
 have hw:IntKind.i64.wrap (-l)= -l:=by rw [IntKind.wrap_i64];omega
 by_cases h1: -l≤n
 ·by_cases h2:n≤l
  ·have e:(decide (-l≤n)&&decide (n≤l))=true:=by rw [decide_eq_true h1,decide_eq_true h2];rfl
   rw [e];go_enter Tryz.func31,Tryz.ntmps31
   go_wp2
   go_ret;exact ⟨rfl,rfl⟩
  ·have e:(decide (-l≤n)&&decide (n≤l))=false:=by rw [decide_eq_false h2];simp
   rw [e];go_enter Tryz.func31,Tryz.ntmps31
   go_wp2
   go_ret;exact ⟨rfl,rfl⟩
 ·have e:(decide (-l≤n)&&decide (n≤l))=false:=by rw [decide_eq_false h1];simp
  rw [e];go_enter Tryz.func31,Tryz.ntmps31
  go_wp2
  go_ret;exact ⟨rfl,rfl⟩
theorem mD (z:Zn) (s:Zs):(Tryz.prog.info? 51).map (·.size)=some (ax z s).size:=by kernel_rfl
theorem D8 (z:Zn) (s:Zs):(ax z s).all (·.oneCell')=true:=by kernel_rfl
end Go.Proofs.YtdibbemgpikgjaaGreat
