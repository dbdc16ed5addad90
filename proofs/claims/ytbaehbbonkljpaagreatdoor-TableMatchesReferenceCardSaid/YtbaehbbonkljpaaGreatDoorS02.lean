/- The texts Ps, TbW, TbX, TbM, TbK, TbR, TbJ, in this order. -/
import Derived.Test.YtbaehbbonkljpaaGreatDoorS00
import Derived.Lib.AppendStr
import Derived.Test.YtbaehbbonkljpaaGreatDoorS01
set_option maxRecDepth 10000
set_option maxHeartbeats 8000000
namespace Go.Proofs.YtbaehbbonkljpaaGreatDoor
open Go Go.RowKit
theorem zu (w:World) (base:Nat) (ty:TypeId) (v:Value) (n:Nat) (xs:List Value) (hown:w.ownsRow base 5 1 v n xs) (s:ByteArray) (hlen:n+s.size<=1000000000000) (hbase:base<=w.heap.size):
  ∃v' w',(Builtin.append_ #[55,9] ty #[v, .string s]).run Tryz.prog w= .ok v' w'/\w'.ownsRow base 5 1 v' (n+s.size) (xs++Lib.strCells s)/\w.grownBy w' v.ownBlock/\(v'.ownBlock=v.ownBlock\/v'.ownBlock=some w.heap.size):=by
 obtain ⟨i0,hi,hz0,hz1,hz2⟩:=info_parts lN;obtain ⟨v',w',hr,h2,h3,h4⟩:=Lib.run_append_own_string (P:=Tryz.prog) w base 55 9 ty 5 i0 Tryz.underlying55 Tryz.underlying9 hi hz0 hz1 hz2 v n xs hown s (by unfold maxLen;omega) (by omega) hbase;refine ⟨v',w',hr,h2,h3,?_⟩;have hxl:xs.length=n:=by simpa using hown.1
 rcases hown.2 with ⟨rfl,rfl⟩|⟨g,cap,cur,rfl,hbg,hg,hnc,hcm,hcs,htake⟩
 ·by_cases h0:s.size=0
  ·left;rw [h4.2 ⟨rfl,h0⟩]
  ·right;have hr':=run_append_nil_string (P:=Tryz.prog) w 55 9 ty 5 i0 (.int .u8 0) Tryz.underlying55 Tryz.underlying9 hi hz0 s (by omega) (by omega) (by rw [hz2];omega);rw [hr] at hr';injection hr' with hv _;rw [hv];rfl
 ·by_cases hroom:n+s.size<=cap
  ·left;have hr':=Lib.run_append_room_string (P:=Tryz.prog) w 55 9 ty 5 i0 Tryz.underlying55 Tryz.underlying9 hi hz1 g n cap cur hg s hroom (by omega);rw [hr] at hr';injection hr' with hv _;rw [hv];rfl
  ·right;have holds:∀j u,xs[j]? =some u->w.cell? ((⟨g,0,none⟩:Addr).add j)=some u:=hown.cells (g:=g) rfl;have hr':=Lib.run_append_grow_string (P:=Tryz.prog) w 55 9 ty 5 i0 (.int .u8 0) Tryz.underlying55 Tryz.underlying9 hi hz0 ⟨g,0,none⟩ n cap xs (by rw [hz1];omega) holds s (by omega) (by omega) (by rw [hz2];exact growslice_fits (by omega) (by omega));rw [hr] at hr';injection hr' with hv _;rw [hv];rfl
theorem Dj {ops:Array Oper} {rest:List Oper} {o:Oper} {a:Act} {Q:Exit->Act->World->Prop} {w:World} (hgd:o.guard=none) (sl x:Operand)
  (ho:o.op= .call {callee:= .builtin .append,args:= #[sl,x],argTypes:= #[55,9]}) (base:Nat) (v:Value) (n:Nat) (xs:List Value) (hs:a.eval sl=v) (hown:w.ownsRow base 5 1 v n xs) (s:ByteArray) (hx:a.eval x= .string s)
  (hlen:n+s.size<=1000000000000) (hbase:base<=w.heap.size)
  (h:∀v' w',w'.ownsRow base 5 1 v' (n+s.size) (xs++Lib.strCells s)->w.grownBy w' v.ownBlock->(v'.ownBlock=v.ownBlock\/v'.ownBlock=some w.heap.size)->wpList Tryz.prog ops Q rest (a.put o.dst v') w'):wpList Tryz.prog ops Q (o::rest) a w:=by
 refine wpList_plain hgd fun K hK=>?_;obtain ⟨v',w',hr,h2,h3,h4⟩:=zu w base o.type v n xs hown s hlen hbase;unfold Oper.wp execOp;simp only [ho,resolve,invoke,builtin,Sem.run_bind,Sem.run_pure,Result.andThen_ok,List.map_toArray,List.map_cons,List.map_nil,hs,hx,hr];exact hK _ _ (h v' w' h2 h3 h4)
theorem GR {ops:Array Oper} {o:Oper} {a:Act} {Q:Exit->Act->World->Prop} {K:Act->World->Prop} {E:Prop} {w:World} (hgd:o.guard=none) (sl x:Operand)
  (ho:o.op= .call {callee:= .builtin .append,args:= #[sl,x],argTypes:= #[55,9]}) (base:Nat) (v:Value) (n:Nat) (xs:List Value) (hs:a.eval sl=v) (hown:w.ownsRow base 5 1 v n xs) (s:ByteArray) (hx:a.eval x= .string s)
  (hlen:n+s.size<=1000000000000) (hbase:base<=w.heap.size) (hpos:0<n+s.size)
  (h:∀g' cap' w',w'.ownsRow base 5 1 (.slice (some ⟨g',0,none⟩) (n+s.size) cap') (n+s.size) (xs++Lib.strCells s)->w.grownBy w' v.ownBlock->((Value.slice (some ⟨g',0,none⟩) (n+s.size) cap').ownBlock=v.ownBlock\/(Value.slice (some ⟨g',0,none⟩) (n+s.size) cap').ownBlock=some w.heap.size)->K (a.put o.dst (.slice (some ⟨g',0,none⟩) (n+s.size) cap')) w'):if Region.wanted o (yielded ops a.tmps)=true then Oper.wp Tryz.prog o a w K Q else E:=by
 have hw:Region.wanted o (yielded ops a.tmps)=true:=by simp [Region.wanted,hgd]
 rw [if_pos hw];obtain ⟨v',w',hr,h2,h3,h4⟩:=zu w base o.type v n xs hown s hlen hbase;obtain ⟨g',cap',rfl,_⟩:=gG h2 hpos;unfold Oper.wp execOp;simp only [ho,resolve,invoke,builtin,Sem.run_bind,Sem.run_pure,Result.andThen_ok,List.map_toArray,List.map_cons,List.map_nil,hs,hx,hr];exact h _ _ _ h2 h3 h4
theorem Ju (w:World) (bb off c:Nat) (s:ByteArray) (h:∀j,j<s.size->w.cell? ⟨bb,off+j,none⟩=some (Extern.Stop.cell (s.data.toList[j]?.getD 0))):
  (convert 55 9 (.slice (some ⟨bb,off,none⟩) s.size c)).run Tryz.prog w= .ok (.string s) w:=by
 have e:strOfNums (s.data.toList.map fun (b:UInt8)=>((b.toNat:Nat):Int))=s:=by
  unfold strOfNums;rw [List.map_map];have:((fun n:Int=>UInt8.ofNat n.toNat) ∘ fun (b:UInt8)=>((b.toNat:Nat):Int))=id:=by
   funext b;simp
  rw [this,List.map_id]
 have hl:s.data.toList.length=s.size:=Array.length_toList;have hr:=run_convert_bytes_arg (P:=Tryz.prog) w 55 5 Tryz.underlying55 Tryz.underlying5 bb off s.size c (s.data.toList.map fun (b:UInt8)=>((b.toNat:Nat):Int)) (by rw [List.length_map,hl]) (fun i hi=>by
  rw [h i hi];have hx:s.data.toList[i]? =some s.data.toList[i]:=bK (by omega);rw [hx,List.getD_eq_getElem?_getD,List.getElem?_map,hx];rfl) 9 Tryz.underlying9
 rw [e] at hr;exact hr
def ig (w:World) (g:Nat) (v:Value) (bs:List UInt8):Prop:=
 w.heap[g]? =some (.cells #[v] 93 (0,0))/\w.ownsRow (g+1) 5 1 v bs.length (bs.map Extern.Stop.cell)
theorem QU {w w1:World} {g:Nat} {v v':Value} {bs:List UInt8} {c:UInt8} {o:Obj} (h:ig w g v bs) (hg:g<w.heap.size)
  (hown:w1.ownsRow (g+1) 5 1 v' (bs.length+1) (bs.map Extern.Stop.cell++ [Extern.Stop.cell c])) (hgrow:(w.alloc o).grownBy w1 v.ownBlock)
  (hat:v'.ownBlock=v.ownBlock\/v'.ownBlock=some (w.heap.size+1)):
  w1.heap[g]? =some (.cells #[v] 93 (0,0))/\ig (w1.setCell ⟨g,0,none⟩ v') g v' (bs++ [c])/\iL g v w v' (w1.setCell ⟨g,0,none⟩ v'):=by
 have hne:some g≠v.ownBlock:=eG h.2 g (Nat.lt_succ_self g);have hg1:w1.heap[g]? =some (.cells #[v] 93 (0,0)):=by
  rw [hgrow.block g (by simp;omega) hne,Below.heap_alloc w o g hg];exact h.1
 refine ⟨hg1,⟨?_,?_⟩,?_⟩
 ·rw [heap_setCell_same w1 g 0 _ _ v' hg1];rfl
 ·have:=eP (u:=v') (p:=⟨g,0,none⟩) hown (eG hown g (Nat.lt_succ_self g));simpa using this
 ·refine ⟨hgrow.os,hgrow.tape,hgrow.output,?_,fun k hk hkg hkv=>?_,?_⟩
  ·have:=hgrow.size;simp [World.setCell] at this ⊢;omega
  ·rw [heap_setCell_other w1 _ k v' hkg,hgrow.block k (by simp;omega) hkv,Below.heap_alloc w o k hk]
  ·rcases hat with e|e
   ·exact .inl e
   ·exact .inr ⟨_,e,by omega⟩
def iY (w:World) (g:Nat) (v:Value) (bs:List UInt8) (e:Ending) (w':World):Prop:=
 e= .returned (.tuple #[])/\∃v',ig w' g v' bs/\iL g v w v' w'
def TwRel (w:World) (g:Nat) (v:Value) (bs:List UInt8) (n:Int) (size:Nat) (x i:Value) (wr:World):Prop:=
 ∃k:Nat,k<=size/\i= .int .i64 k/\x= .int .i64 (jW n k)/\∃v',ig wr g v' (bs++le n k)/\iL g v w v' wr
theorem dC (w:World) (g:Nat) (p:Addr) (v:Value) (bs:List UInt8) (n:Int) (size:Nat) (hn0: -9223372036854775808<=n) (hn1:n<=9223372036854775807) (hs:size<=8) (hl:bs.length<=1099511627776) (hg:g<w.heap.size) (hst:ig w g v bs) (hp:w.cell? p=some (I n)):
  Calls Tryz.prog 177 #[pt g, .pointer (some p),I size] w (iY w g v (bs++le n size)):=by
 obtain ⟨i0,hi,hz0,hz1,hz2⟩:=info_parts lN;have HST:=ae hst;clear hst;go_enter Tryz.func177,Tryz.ntmps177
 go_wp2
 go_loopw [6,11] (fun x i wr=>TwRel w g v bs n size x i wr) (fun _ i _=>size - (intOf i).toNat)
 case atStart=>exact ⟨0,Nat.zero_le _,rfl,rfl,v,by simpa [le] using HST.out,iL.refl _ _ _⟩
 case round=>
  obtain ⟨k,hk,rfl,rfl,v1,hw1,hk1⟩:=hrel;by_cases hlt:k<size
  ·obtain ⟨x,hx⟩:∃x,jW n k=x:=⟨_,rfl⟩;have hbd:=Nz n k hn0 hn1;rw [hx] at hbd ⊢;have HX:=ae hx;obtain ⟨B,hB⟩:∃B,bs++le n k=B:=⟨_,rfl⟩;have hlen:B.length<=1099511627784:=by rw [<-hB,bF,aC];omega
   rw [hB] at hw1;have HBB:=ae hB;have hc:=cell_of_row wr g 0 _ _ _ hw1.1;have hgr:g<wr.heap.size:=dP hg hk1.size;have HW:=ae hw1;have HK:=ae hk1;have hown:=ae hw1.2;clear hx hw1 hk1 hB;go_wp2_with (at_builtin;refine wpList_append_own_at _ rfl _ _ 55 rfl (g+1) 5 i0 (.int .u8 0) 1 1 Tryz.underlying55 hi hz0 hz1 hz2 rfl (by decide) _ _ _ rfl (hown.out.alloc _) ⟨wr.heap.size,0,none⟩ 1 1 [Extern.Stop.cell (byteOf x)] rfl rfl ?c1 ?c2 ?c3 ?c4 ?c5 ?_)
   case c1=>
    rw [fF];exact cell_one_new _ _ _
   case c2=>intro u hu;simp at hu;subst hu;rfl
   case c3=>unfold maxLen;omega
   case c4=>omega
   case c5=>simp;omega
   intro v' w1 hown' hgrow _ hat;obtain ⟨hg1,hst1,hkp1⟩:=QU HW.out hgr hown' hgrow hat;obtain ⟨g',cap',rfl,_⟩:=gG hown' (Nat.succ_pos _);have hc1:=cell_of_row w1 g 0 _ _ _ hg1;have hf1:=frozen_of_row w1 g 0 _ _ hg1;have HST1:=ae hst1;have HKP1:=ae hkp1;clear hown' hgrow hat hg1 hst1 hkp1 hc
   go_wp2
   go_roundw
   case rel=>exact ⟨k+1,by omega,by go_num,by unfold jW;rw [HX.out],_,by rw [Gw,<-List.append_assoc,HBB.out,HX.out];exact HST1.out,HK.out.trans HKP1.out⟩
   case measure=>simp [intOf];omega
  ·have hke:k=size:=by omega
   have Hw:=ae hke;have HW:=ae hw1;have HK:=ae hk1;clear hke hw1 hk1
   go_wp2
   go_end0
   exact ⟨rfl,v1,by rw [<-Hw.out];exact HW.out,HK.out⟩
theorem ig.lt {w:World} {g:Nat} {v:Value} {bs:List UInt8} (h:ig w g v bs):g<w.heap.size:=(bV.1 h.1).1
theorem ig.grow {w w':World} {g:Nat} {v:Value} {bs:List UInt8} (h:ig w g v bs) (hb:Below w.heap.size w w'):ig w' g v bs/\iL g v w v w':=
 ⟨⟨(hb.block g h.lt).trans h.1,bI h.2 fun k _ hk=>hb.block k hk⟩,⟨hb.os,hb.tape,hb.output,hb.size,fun k hk _ _=>hb.block k hk, .inl rfl⟩⟩
theorem ig.far {w w':World} {g:Nat} {v v':Value} {bs:List UInt8} (_h:ig w g v bs) (hk:iL g v w v' w') (b:Nat) (hb:b<w.heap.size) (hg:b≠g) (ho:some b≠v.ownBlock):w'.heap[b]? =w.heap[b]? :=hk.block b hb hg ho
theorem ig.new_ne {w:World} {g:Nat} {v:Value} {bs:List UInt8} (h:ig w g v bs):w.heap.size≠g/\some w.heap.size≠v.ownBlock:=
 ⟨by have:=h.lt;omega,fun e=>by have:=UD h.2 _ e.symm;omega⟩
theorem jL (w:World) (g:Nat) (v:Value) (bs:List UInt8) (n:Int) (size:Nat) (hn0: -9223372036854775808<=n) (hn1:n<=9223372036854775807) (hs:size<=8) (hl:bs.length<=1099511627776) (hst:ig w g v bs):
  Calls Tryz.prog 176 #[pt g,I n,I size] w fun e w'=>e= .returned (I n)/\∃v',ig w' g v' (bs++le n size)/\iL g v w v' w':=by
 obtain ⟨h1,h2⟩:=hst.grow (ag w (.cells #[I n] 3));have hne:=hst.new_ne;have HC:=ae (dC (w.alloc (.cells #[I n] 3)) g ⟨w.heap.size,0,none⟩ v bs n size hn0 hn1 hs hl h1.lt h1 ((Row.new w #[I n] 3).2 0));have HB:=ae (heap_alloc_last w (.cells #[I n] 3));have H1:=ae h1;have H2:=ae h2;have Hy:=ae hne;clear h1 h2 hst hne;go_enter Tryz.func176,Tryz.ntmps176;go_wp2_with fail;refine HC.out.mono ?_;rintro e w1 ⟨rfl,v1,hs1,hk1⟩;have k1:w1.cell? ⟨w.heap.size,0,none⟩=some (I n):=cell_of_row w1 _ 0 _ _ _ ((H1.out.far hk1 w.heap.size (by simp) Hy.out.1 Hy.out.2).trans HB.out);have HS:=ae hs1;have HK:=ae (H2.out.trans hk1);clear hs1 hk1 HC;go_wp2_with fail;go_ret;exact ⟨rfl,v1,HS.out,HK.out⟩
theorem J3 {w W w1:World} {g m:Nat} {v v':Value} {bs xs:List UInt8} (h:ig w g v bs) (hW:W.heap=w.heap) (h1:W.os=w.os) (h2:W.tape=w.tape) (h3:W.output=w.output) (hm:m=bs.length+xs.length)
  (hown:w1.ownsRow (g+1) 5 1 v' m (bs.map Extern.Stop.cell++xs.map Extern.Stop.cell)) (hgrow:W.grownBy w1 v.ownBlock) (hat:v'.ownBlock=v.ownBlock\/v'.ownBlock=some w.heap.size):
  w1.heap[g]? =some (.cells #[v] 93 (0,0))/\ig (w1.setCell ⟨g,0,none⟩ v') g v' (bs++xs)/\iL g v w v' (w1.setCell ⟨g,0,none⟩ v'):=by
 subst hm;have hg:=h.lt;have hne:some g≠v.ownBlock:=eG h.2 g (Nat.lt_succ_self g);have hg1:w1.heap[g]? =some (.cells #[v] 93 (0,0)):=by
  rw [hgrow.block g (by rw [hW];exact hg) hne,hW];exact h.1
 refine ⟨hg1,⟨?_,?_⟩,?_⟩
 ·rw [heap_setCell_same w1 g 0 _ _ _ hg1];rfl
 ·have:=eP (u:=v') (p:=⟨g,0,none⟩) hown (eG hown g (Nat.lt_succ_self g));simpa using this
 ·refine ⟨hgrow.os.trans h1,hgrow.tape.trans h2,hgrow.output.trans h3,?_,fun k hk hkg hkv=>?_,?_⟩
  ·have:=hgrow.size;rw [hW] at this;simp [World.setCell];omega
  ·rw [heap_setCell_other w1 _ k _ hkg,hgrow.block k (by rw [hW];exact hk) hkv,hW]
  ·exact hat.elim .inl fun e=> .inr ⟨_,e,Nat.le_refl _⟩
theorem uH (w:World) (g:Nat) (p:Addr) (v:Value) (bs:List UInt8) (n:Int) (hn0: -9223372036854775808<=n) (hn1:n<=9223372036854775807) (hl:bs.length<=1099511627776) (hst:ig w g v bs) (hp:w.cell? p=some (I n)):
  Calls Tryz.prog 178 #[pt g, .pointer (some p)] w (iY w g v (bs++le n 2)):=by
 have HC:=ae (dC w g p v bs n 2 hn0 hn1 (by omega) hl hst.lt hst hp);clear hst hp;go_enter Tryz.func178,Tryz.ntmps178;go_wp2_with fail;refine HC.out.mono ?_;rintro e w1 ⟨rfl,h⟩;have H:=ae h;clear h HC;go_wp2_with fail
 go_end0
 exact ⟨rfl,H.out⟩
theorem JO (w:World) (g db off:Nat) (v:Value) (bs ds:List UInt8) (hl:bs.length<=1000000000000) (hd:w.rangeAt db off (ax ds)) (h32:ds.length=32) (hst:ig w g v bs):
  Calls Tryz.prog 174 #[pt g, .pointer (some ⟨db,off,none⟩)] w (iY w g v (bs++ds)):=by
 have hc0:w.cell? ⟨g,0,none⟩=some v:=cell_of_row w g 0 _ _ _ hst.1;have hgl:g<w.heap.size:=hst.lt;have HI:=ae hst;obtain ⟨i0,hi,hz0,hz1,hz2⟩:=info_parts lN;have hnews:∀j u,(ax ds)[j]? =some u->w.drew.cell? ((⟨db,off,none⟩:Addr).add j)=some u:=fun j u hu=>by
  rw [Addr.add_mid];exact hd j u hu
 have hmx:bs.length+32<=maxLen:=by unfold maxLen;omega
 have hby:(bs.length+32)*1<=140737488355328:=by omega
 clear hst hd;go_enter Tryz.func174,Tryz.ntmps174;go_wp2_with fail
 go_region_law ((refine step_append_lies _ (by rfl) _ _ _ (by rfl) (g+1) 5 i0 _ 1 1 Tryz.underlying55 hi hz0 hz1 hz2 rfl (by omega) v bs.length (bs.map Extern.Stop.cell) (by rfl) (HI.out.2.drew) ⟨db,off,none⟩ 32 32 (ax ds) (by rfl) (by simp [ax,h32]) hnews (pV ds) (by omega) hmx hby (Nat.succ_le_of_lt hgl) w.heap.size rfl ?_;intro gg cap w1 hown1 hgrow hat hlt;have hS:=J3 (w:=w) (W:=w.drew) (xs:=ds) (m:=bs.length+32) HI.out rfl rfl rfl rfl (by rw [h32]) hown1 hgrow (hat.elim (fun e=> .inl e.symm) (fun e=> .inr (by rw [<-e];rfl)));have hc2:w1.cell? ⟨g,0,none⟩=some v:=cell_of_row w1 g 0 _ _ _ hS.1;have hf2:=frozen_of_row w1 g 0 _ _ hS.1;have oD:=ae hS;clear hS hown1 hgrow hat hlt))
 all_goals
  go_wp2
  go_end0
  exact ⟨rfl,_,oD.out.2.1,oD.out.2.2⟩
theorem QT (w:World) (g:Nat) (p:Addr) (v:Value) (bs:List UInt8) (s:ByteArray) (hs:s.size<=1000000) (hl:bs.length<=1000000000) (hst:ig w g v bs) (hp:w.cell? p=some (.string s)) (hpg:p.block≠g) (hpv:some p.block≠v.ownBlock) (hpl:p.block<w.heap.size):
  Calls Tryz.prog 179 #[pt g, .pointer (some p)] w (iY w g v (bs++(le s.size 1++s.data.toList))):=by
 have HC:=ae (jL w g v bs s.size 1 (by omega) (by omega) (by omega) (by omega) hst);have HST:=ae hst;have HPK:=ae (show p.block≠g/\some p.block≠v.ownBlock from ⟨hpg,hpv⟩);clear hst hpg hpv;go_enter Tryz.func179,Tryz.ntmps179;go_wp2_with fail;refine HC.out.mono ?_;rintro e w1 ⟨rfl,v1,hw1,hk1⟩;have hlen:(bs++le (s.size:Int) 1).length<=1000000008:=by rw [bF,aC];omega
 have hpos:0<(bs++le (s.size:Int) 1).length:=by rw [bF,aC];omega
 obtain ⟨B,hB⟩:∃B,bs++le (s.size:Int) 1=B:=⟨_,rfl⟩;rw [hB] at hw1 hlen hpos;have hp1:w1.cell? p=some (.string s):=(World.cell?_of_block (hk1.block p.block hpl HPK.out.1 HPK.out.2)).trans hp;have HB:=ae hB;have HW:=ae hw1;have HK:=ae hk1;have hc1:=cell_of_row w1 g 0 _ _ _ hw1.1;have hgl:g<w1.heap.size:=hw1.lt;clear hB hw1 hk1 HC hp;go_wp2_with fail
 go_region_law ((refine GR (by rfl) _ _ (by rfl) (g+1) v1 B.length (B.map Extern.Stop.cell) (by rfl) (HW.out.2.drew) s (by rfl) (by omega) (Nat.succ_le_of_lt hgl) (by omega) ?_;intro gg cap w2 hown2 hgrow hat;have hS:=J3 (w:=w1) (W:=w1.drew) (xs:=s.data.toList) (m:=B.length+s.size) HW.out rfl rfl rfl rfl (by rw [Array.length_toList];rfl) hown2 hgrow hat;have hc2:w2.cell? ⟨g,0,none⟩=some v1:=cell_of_row w2 g 0 _ _ _ hS.1;have hf2:=frozen_of_row w2 g 0 _ _ hS.1;have oD:=ae hS;clear hS hown2 hgrow hat))
 all_goals
  go_wp2
  go_end0
  exact ⟨rfl,_,by rw [<-List.append_assoc,HB.out];exact oD.out.2.1,HK.out.trans oD.out.2.2⟩
theorem kQ (n:Nat) (a:Addr) (w:World):(method (n+1) 91 (.pointer (some a)) "kalends/table.number").run Tryz.prog w= .ok (177, .pointer (some a)) w:=by kernel_rfl
theorem kU (n:Nat) (a:Addr) (w:World):(nilAhead (n+1) 91 (.pointer (some a)) "kalends/table.number").run Tryz.prog w= .ok (some false) w:=by kernel_rfl
theorem dI (n:Nat) (a:Addr) (w:World):(method (n+1) 134 (.pointer (some a)) "kalends/table.number").run Tryz.prog w= .ok (183, .pointer (some a)) w:=by kernel_rfl
theorem dM (n:Nat) (a:Addr) (w:World):(nilAhead (n+1) 134 (.pointer (some a)) "kalends/table.number").run Tryz.prog w= .ok (some false) w:=by kernel_rfl
theorem kR (n:Nat) (a:Addr) (w:World):(method (n+1) 91 (.pointer (some a)) "kalends/table.offset").run Tryz.prog w= .ok (178, .pointer (some a)) w:=by kernel_rfl
theorem kV (n:Nat) (a:Addr) (w:World):(nilAhead (n+1) 91 (.pointer (some a)) "kalends/table.offset").run Tryz.prog w= .ok (some false) w:=by kernel_rfl
theorem dJ (n:Nat) (a:Addr) (w:World):(method (n+1) 134 (.pointer (some a)) "kalends/table.offset").run Tryz.prog w= .ok (184, .pointer (some a)) w:=by kernel_rfl
theorem dN (n:Nat) (a:Addr) (w:World):(nilAhead (n+1) 134 (.pointer (some a)) "kalends/table.offset").run Tryz.prog w= .ok (some false) w:=by kernel_rfl
theorem pq (n:Nat) (a:Addr) (w:World):(method (n+1) 91 (.pointer (some a)) "kalends/table.text").run Tryz.prog w= .ok (179, .pointer (some a)) w:=by kernel_rfl
theorem pG (n:Nat) (a:Addr) (w:World):(nilAhead (n+1) 91 (.pointer (some a)) "kalends/table.text").run Tryz.prog w= .ok (some false) w:=by kernel_rfl
theorem fM (n:Nat) (a:Addr) (w:World):(method (n+1) 134 (.pointer (some a)) "kalends/table.text").run Tryz.prog w= .ok (185, .pointer (some a)) w:=by kernel_rfl
theorem fO (n:Nat) (a:Addr) (w:World):(nilAhead (n+1) 134 (.pointer (some a)) "kalends/table.text").run Tryz.prog w= .ok (some false) w:=by kernel_rfl
theorem kN (n:Nat) (a:Addr) (w:World):(method (n+1) 91 (.pointer (some a)) "kalends/table.digest").run Tryz.prog w= .ok (174, .pointer (some a)) w:=by kernel_rfl
theorem kS (n:Nat) (a:Addr) (w:World):(nilAhead (n+1) 91 (.pointer (some a)) "kalends/table.digest").run Tryz.prog w= .ok (some false) w:=by kernel_rfl
theorem dG (n:Nat) (a:Addr) (w:World):(method (n+1) 134 (.pointer (some a)) "kalends/table.digest").run Tryz.prog w= .ok (180, .pointer (some a)) w:=by kernel_rfl
theorem dK (n:Nat) (a:Addr) (w:World):(nilAhead (n+1) 134 (.pointer (some a)) "kalends/table.digest").run Tryz.prog w= .ok (some false) w:=by kernel_rfl
theorem kP (n:Nat) (a:Addr) (w:World):(method (n+1) 91 (.pointer (some a)) "kalends/table.length").run Tryz.prog w= .ok (176, .pointer (some a)) w:=by kernel_rfl
theorem kT (n:Nat) (a:Addr) (w:World):(nilAhead (n+1) 91 (.pointer (some a)) "kalends/table.length").run Tryz.prog w= .ok (some false) w:=by kernel_rfl
theorem dH (n:Nat) (a:Addr) (w:World):(method (n+1) 134 (.pointer (some a)) "kalends/table.length").run Tryz.prog w= .ok (182, .pointer (some a)) w:=by kernel_rfl
theorem dL (n:Nat) (a:Addr) (w:World):(nilAhead (n+1) 134 (.pointer (some a)) "kalends/table.length").run Tryz.prog w= .ok (some false) w:=by kernel_rfl
theorem Ur (n:Nat) (a:Addr) (w:World):(method (n+1) 91 (.pointer (some a)) "kalends/table.flag").run Tryz.prog w= .ok (175, .pointer (some a)) w:=by kernel_rfl
theorem Uz (n:Nat) (a:Addr) (w:World):(nilAhead (n+1) 91 (.pointer (some a)) "kalends/table.flag").run Tryz.prog w= .ok (some false) w:=by kernel_rfl
theorem jd (n:Nat) (a:Addr) (w:World):(method (n+1) 134 (.pointer (some a)) "kalends/table.flag").run Tryz.prog w= .ok (181, .pointer (some a)) w:=by kernel_rfl
theorem je (n:Nat) (a:Addr) (w:World):(nilAhead (n+1) 134 (.pointer (some a)) "kalends/table.flag").run Tryz.prog w= .ok (some false) w:=by kernel_rfl
theorem xJ {w:World} {b o:Nat} {v:Value} (h:w.cell? ⟨b,o,none⟩=some v):w.setCell ⟨b,o,none⟩ v=w:=by
 have hh:(w.setCell ⟨b,o,none⟩ v).heap=w.heap:=by
  apply Array.ext_getElem?;intro k;by_cases hk:k=b
  ·subst hk;unfold World.cell? at h;simp only [World.setCell,Array.getElem?_modify];cases hb:w.heap[k]? with
   |none=>simp
   |some x=>
    cases x with
    |cells c e f=>
     rw [hb] at h;simp at h ⊢;exact (by
      apply Array.ext_getElem?;intro i;rw [Array.getElem?_setIfInBounds];split
      ·rename_i e;subst e;split
       ·exact h.symm
       ·rename_i e2;rw [Array.getElem?_eq_none (by omega)] at h;cases h
      ·rfl)
    |_=>simp
  ·exact heap_setCell_other w _ k v hk
 exact (show w.setCell ⟨b,o,none⟩ v= {w with heap:=(w.setCell ⟨b,o,none⟩ v).heap} from rfl).trans (by rw [hh])
theorem di {w W w':World} {base e size n:Nat} {v:Value} {ys:List Value} (hb:Below base w W) (hown:W.ownsRow base e size v n ys) (hle:base<=W.heap.size) (hg:W.grownBy w' v.ownBlock):Below base w w':=
 ⟨hg.os.trans hb.os,hg.tape.trans hb.tape,hg.output.trans hb.output,Nat.le_trans hb.size hg.size,fun k hk=>(hg.block k (by omega) (eG hown k hk)).trans (hb.block k hk)⟩
theorem iZ (w:World) (e size:Nat):(w.alloc (.cells #[] e)).ownsRow w.heap.size e size (.slice (some ⟨w.heap.size,0,none⟩) 0 0) 0 []:=
 ⟨by simp, .inr ⟨w.heap.size,0,#[],rfl,Nat.le_refl _,heap_alloc_last w _,Nat.le_refl _,Nat.zero_le _,by simp,by simp⟩⟩
def aU (zs:List dw):List Value:=zs.flatMap fun x=>x.cells.toList
theorem dX (zs:List dw):(aU zs).length=zs.length*9:=by
 induction zs with
 |nil=>rfl
 |cons x zs ih=>unfold aU at ih ⊢;rw [List.flatMap_cons,bF,ih,List.length_cons];show 9+zs.length*9=_;omega
theorem Dt (zs:List dw):∀u∈aU zs,u.oneCell'=true:=by
 intro u hu;unfold aU at hu;obtain ⟨x,_,hx⟩:=List.mem_flatMap.1 hu;have h:x.cells.all (·.oneCell')=true:=by kernel_rfl
 rw [Array.all_eq_true_iff_forall_mem] at h;exact h u (by simpa using hx)
theorem lG (zs:List dw) (k j:Nat) (x:dw) (hx:zs[k]? =some x) (hj:j<9):(aU zs)[k*9+j]? =x.cells[j]? :=by
 induction zs generalizing k with
 |nil=>cases hx
 |cons y zs ih=>
  unfold aU at ih ⊢;rw [List.flatMap_cons];have h9:y.cells.toList.length=9:=rfl;cases k with
  |zero=>
   injection hx with hx;subst hx;rw [Nat.zero_mul,Nat.zero_add,List.getElem?_append_left (by omega)];simp
  |succ k=>
   rw [List.getElem?_append_right (by omega),h9,show (k+1)*9+j - 9=k*9+j by omega];exact ih k hx
def qg:Array Value:= #[.string ⟨#[]⟩,I 0, .slice none 0 0,I 0, .slice none 0 0,I 0, .slice none 0 0,I 0, .slice none 0 0]
theorem Gv:(Tryz.prog.info? 76).map (fun i=>(i.zero,i.size,i.bytes))=some (some (.agg qg),9,144):=by kernel_rfl
structure ZsNil (s:Zs):Prop where
 B:s.B=none/\s.b=0
 C:s.C=none/\s.c=0
 D:s.D=none/\s.d=0
theorem lT {W:World} {lo e size g n m cap:Nat} {xs:List Value} (h:W.ownsRow lo e size (.slice (some ⟨g,0,none⟩) n cap) m xs):
  ∃cur,W.heap[g]? =some (.cells cur e (0,0))/\lo<=g/\m<=cap/\cap<=maxLen/\cur.size=cap*size/\cur.toList.take (m*size)=xs/\xs.length=m*size/\n=m:=by
 obtain ⟨h0,⟨h1,_⟩|⟨g',cap',cur,h1,h2,h3,h4,h5,h6,h7⟩⟩:=h
 ·cases h1
 ·injection h1 with e1 e2 e3;injection e1 with e1;injection e1 with e1;subst e1 e2 e3;exact ⟨cur,h3,h2,h4,h5,h6,h7,h0,rfl⟩
theorem Nj {W:World} {lo e size g n cap:Nat} {xs:List Value} {cur:Array Value} (h1:W.heap[g]? =some (.cells cur e (0,0))) (h2:lo<=g) (h3:n<=cap) (h4:cap<=maxLen) (h5:cur.size=cap*size) (h6:cur.toList.take (n*size)=xs) (h7:xs.length=n*size):W.ownsRow lo e size (.slice (some ⟨g,0,none⟩) n cap) n xs:=
 ⟨h7, .inr ⟨g,cap,cur,rfl,h2,h1,h3,h4,h5,h6⟩⟩
theorem pJ {W:World} {lo e size g n m cap:Nat} {xs:List Value} (h:W.ownsRow lo e size (.slice (some ⟨g,0,none⟩) n cap) m xs) (j:Nat) (u:Value) (hu:xs[j]? =some u):W.cell? ⟨g,j,none⟩=some u:=by
 obtain ⟨cur,h1,h2,h3,h4,h5,h6,h7,_⟩:=lT h;rw [cell_of_row W g j _ _ _ h1];rw [<-h6] at hu;rw [List.getElem?_take] at hu;split at hu
 ·simpa using hu
 ·cases hu
theorem Cf {W:World} {lo e size g n m cap:Nat} {xs:List Value} (h:W.ownsRow lo e size (.slice (some ⟨g,0,none⟩) n cap) m xs) (j:Nat):W.frozen? ⟨g,j,none⟩=false:=by
 obtain ⟨cur,h1,_⟩:=lT h;exact frozen_of_row W g j _ _ h1
theorem jC {W:World} {lo e size g n m cap:Nat} {xs:List Value} (h:W.ownsRow lo e size (.slice (some ⟨g,0,none⟩) n cap) m xs):lo<=g/\g<W.heap.size:=by
 obtain ⟨cur,h1,h2,_⟩:=lT h;exact ⟨h2,(bV.1 h1).1⟩
theorem Yk {W:World} {lo e size g n m cap:Nat} {xs:List Value} (h:W.ownsRow lo e size (.slice (some ⟨g,0,none⟩) n cap) m xs) (o:Nat) (v:Value):(W.setCell ⟨g,o,none⟩ v).ownsRow lo e size (.slice (some ⟨g,0,none⟩) n cap) m (xs.set o v):=by
 obtain ⟨cur,h1,h2,h3,h4,h5,h6,h7,rfl⟩:=lT h;refine Nj (heap_setCell_same W g o cur e v h1) h2 h3 h4 (by rw [Array.size_setIfInBounds];exact h5) ?_ (by rw [List.length_set];exact h7);rw [Array.toList_setIfInBounds,List.take_set,h6]
def Qz (xs:List Value) (o:Nat):List Value->List Value
 | []=>xs
 |v::r=>Qz (xs.set o v) (o+1) r
theorem Jl {lo e size g n m cap:Nat}:∀(vs:List Value) (o:Nat) (xs:List Value) (W:World),W.ownsRow lo e size (.slice (some ⟨g,0,none⟩) n cap) m xs->(W.setCells g o vs).ownsRow lo e size (.slice (some ⟨g,0,none⟩) n cap) m (Qz xs o vs)
 | [],_,_,_,h=>h
 |v::r,o,xs,_,h=>Jl r (o+1) (xs.set o v) _ (Yk h o v)
theorem set_mid (ls bs cs:List Value) (j:Nat) (v:Value) (hj:j<bs.length):(ls++(bs++cs)).set (ls.length+j) v=ls++(bs.set j v++cs):=by
 rw [List.set_append_right _ _ (by omega),List.set_append_left _ _ (by omega)];simp
theorem Jr (ls cs:List Value):∀(vs bs:List Value) (j:Nat),j+vs.length<=bs.length->Qz (ls++(bs++cs)) (ls.length+j) vs=ls++(Qz bs j vs++cs)
 | [],_,_,_=>rfl
 |v::r,bs,j,h=>by
  rw [List.length_cons] at h;show Qz ((ls++(bs++cs)).set (ls.length+j) v) (ls.length+j+1) r=_;rw [set_mid ls bs cs j v (by omega),Nat.add_assoc];exact Jr ls cs r (bs.set j v) (j+1) (by rw [List.length_set];omega)
theorem uz:∀(vs:List Value) (w:World) (b o k:Nat),k≠b->(w.setCells b o vs).heap[k]? =w.heap[k]?
 | [],_,_,_,_,_=>rfl
 |v::r,w,b,o,k,h=>(uz r _ b (o+1) k h).trans (heap_setCell_other w _ k v h)
theorem GL:∀(vs:List Value) (w:World) (b o:Nat),(w.setCells b o vs).heap.size=w.heap.size
 | [],_,_,_=>rfl
 |v::r,w,b,o=>(GL r _ b (o+1)).trans (by simp [World.setCell])
theorem JD {B:Nat} {w0:World}:∀(vs:List Value) (w:World) (b o:Nat),Below B w0 w->B<=b->Below B w0 (w.setCells b o vs)
 | [],_,_,_,h,_=>h
 |v::r,_,b,o,h,hb=>JD r _ b (o+1) (h.setCell (p:=⟨b,o,none⟩) hb v) hb
theorem Kr (xs ys:List dw):aU (xs++ys)=aU xs++aU ys:=by simp [aU]
theorem zQ (ys:List dw) (x:dw) (rest:List dw):aU (ys++x::rest)=aU ys++(x.cells.toList++aU rest):=by simp [aU]
theorem Hr (ys:List dw) (x:dw) (rest:List dw) (s:Zs):Qz (aU (ys++x::rest)) (ys.length*9+1) (ay x.e.z s).toList=aU (ys++⟨x.e,s⟩::rest):=by
 rw [zQ,zQ,<-dX,Jr _ _ _ _ _ (by show 1+8<=9;omega)];rfl
structure kG (lo:Nat) (w:World) (v:Value) (zs:List dw):Prop where
 row:w.ownsRow lo 76 9 v zs.length (aU zs)
 au:∀x∈zs,LI lo w x.s.A x.e.z.cal.au
 nils:∀x∈zs,ZsNil x.s
 nil:zs.length=0->v= .slice none 0 0
theorem kG.aK {lo:Nat} {w w':World} {v:Value} {zs:List dw} (h:kG lo w v zs) (hs:w.heap.size<=w'.heap.size) (hb:∀k,lo<=k->k<w.heap.size->w'.heap[k]? =w.heap[k]?):kG lo w' v zs:=
 ⟨bI h.row hb,fun x hx=>(h.au x hx).aK hs hb,h.nils,h.nil⟩
theorem kG.below {lo:Nat} {w w':World} {v:Value} {zs:List dw} (h:kG lo w v zs) (hb:Below w.heap.size w w'):kG lo w' v zs:=h.aK hb.size fun k _ hk=>hb.block k hk
theorem kG.lower {lo lo':Nat} {w:World} {v:Value} {zs:List dw} (h:kG lo w v zs) (hl:lo'<=lo):kG lo' w v zs:=
 ⟨aX h.row hl,fun x hx=>(h.au x hx).lower hl,h.nils,h.nil⟩
theorem kG.form {lo:Nat} {w:World} {v:Value} {zs:List dw} (h:kG lo w v zs):(zs= []/\v= .slice none 0 0)\/(0<zs.length/\∃g c,v= .slice (some ⟨g,0,none⟩) zs.length c/\lo<=g/\g<w.heap.size):=by
 by_cases h0:zs.length=0
 ·exact .inl ⟨List.eq_nil_of_length_eq_zero h0,h.nil h0⟩
 ·obtain ⟨g,c,h1,h2⟩:=gG h.row (by omega);refine .inr ⟨by omega,g,c,h1,?_,h2⟩;have hr:=h.row;rw [h1] at hr;exact (jC hr).1
theorem kG.zes {lo:Nat} {w:World} {A:Option Addr} {n c:Nat} {zs:List dw} (h:kG lo w (.slice A n c) zs):y7 w w.heap.size A zs:=by
 rcases h.form with ⟨h1,_⟩|⟨_,g,c',h1,h2,h3⟩
 ·exact .inl (by rw [h1];rfl)
 ·injection h1 with e1 e2 e3;subst e1;have hr:=h.row;refine .inr ⟨g,rfl,h3,fun k x hx=>⟨fun j u hu=>?_,(h.au x (gZ hx)).ints⟩⟩;have hj:j<9:=(gQ.1 hu).1;exact pJ hr _ u (by rw [lG zs k j x hx hj];simpa using hu)
theorem qE (t:Tb) (v v':Value):(ai t v).setIfInBounds 3 v'=ai t v':=by simp [ai,jy]
theorem aT (t:Tb) (A:Option Addr) (n c:Nat):(ai t (.slice A n c)).all (·.oneCell')=true:=by
 rw [Array.all_eq_true_iff_forall_mem];intro u hu;unfold ai jy at hu;rw [List.mem_toArray,List.mem_append,List.mem_append] at hu;rcases hu with h|h|h
 ·simp at h;rcases h with rfl|rfl|rfl|rfl<;>rfl
 ·exact pV _ u h
 ·exact pV _ u h
structure DC (w:World) (t:Tb) (v:Value) (W:World):Prop where
 var:W.heap[w.heap.size]? =some (.cells (ai t v) 26 (0,0))
 res:W.heap[w.heap.size+1]? =some (.cells Tryz.zeroCells26 26 (0,0))
 up:Below w.heap.size w W
theorem DC.lt {w W:World} {t:Tb} {v:Value} (h:DC w t v W):w.heap.size+1<W.heap.size:=(bV.1 h.res).1
theorem DC.grow {w W W':World} {t:Tb} {v:Value} (h:DC w t v W) (hb:Below W.heap.size W W'):DC w t v W':=
 ⟨(hb.block _ (by have:=h.lt;omega)).trans h.var,(hb.block _ h.lt).trans h.res,ah h.up hb⟩
theorem DC.store {w W:World} {t:Tb} {v:Value} (h:DC w t v W) (v':Value):DC w t v' (W.setCell ⟨w.heap.size,3,none⟩ v'):=
 ⟨by rw [heap_setCell_same W _ 3 _ _ _ h.var,qE],(heap_setCell_other W _ _ v' (by show w.heap.size+1≠w.heap.size;omega)).trans h.res,h.up.setCell (p:=⟨w.heap.size,3,none⟩) (Nat.le_refl _) _⟩
theorem DC.puts {w W:World} {t:Tb} {v:Value} (h:DC w t v W) (g o:Nat) (vs:List Value) (hg:w.heap.size+2<=g):DC w t v (W.setCells g o vs):=
 ⟨(uz vs W g o _ (by omega)).trans h.var,(uz vs W g o _ (by omega)).trans h.res,JD vs W g o h.up (by omega)⟩
theorem DC.drew {w W:World} {t:Tb} {v:Value} (h:DC w t v W):DC w t v W.drew:=⟨h.var,h.res,h.up.drew⟩
theorem DC.start (w:World) (t:Tb) (v:Value):DC w t v ((w.alloc (.cells (ai t v) 26)).alloc (.cells Tryz.zeroCells26 26)):=
 ⟨heap_alloc2_old w _ _,heap_alloc2_new w _ _,ah (ag w _) (ag _ _)⟩
theorem DC.row {w W:World} {t:Tb} {v:Value} (h:DC w t v W):Row W w.heap.size (ai t v):=⟨by have:=h.lt;omega,fun i=>cell_of_row W _ i _ _ _ h.var⟩
attribute [local go_sem] ja jb jc bC
def LX (lo g:Nat) (w:World) (A:Option Addr) (zs:List Int):Prop:=
 ∃b off,A=some ⟨b,off,none⟩/\lo<=b/\b<w.heap.size/\b≠g/\∀j,j<zs.length->w.cell? ⟨b,off+j,none⟩=some (I (zs[j]?.getD 0))
theorem LX.aK {lo g:Nat} {w w':World} {A:Option Addr} {zs:List Int} (h:LX lo g w A zs) (hs:w.heap.size<=w'.heap.size) (hb:∀k,k<w.heap.size->k≠g->w'.heap[k]? =w.heap[k]?):LX lo g w' A zs:=by
 obtain ⟨b,off,h1,h2,h3,h4,h5⟩:=h;exact ⟨b,off,h1,h2,dP h3 hs,h4,fun j hj=>(World.cell?_of_block (a:=⟨b,off+j,none⟩) (hb b h3 h4)).trans (h5 j hj)⟩
theorem LX.dR {lo B g b n c:Nat} {w:World} {zs:List Int} (h:w.ownsRow B 3 1 (.slice (some ⟨b,0,none⟩) n c) n (zs.map I)) (hl:lo<=B) (hg:g<B):LX lo g w (some ⟨b,0,none⟩) zs:=by
 have h1:=jC h;refine ⟨b,0,rfl,by omega,h1.2,by omega,fun j hj=>?_⟩;rw [Nat.zero_add];refine pJ h j _ ?_;rw [List.getElem?_map,bK hj];rfl
end Go.Proofs.YtbaehbbonkljpaaGreatDoor
