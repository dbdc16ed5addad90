/- The texts TbE, Ps, TbW, TbX, TbM, TbK, in this order. -/
import Derived.Test.YtdibbemgpikgjaaGreatDoorW00
import Derived.Lib.AppendStr
import Derived.Test.YtdibbemgpikgjaaGreatDoorW01
set_option maxRecDepth 10000
set_option maxHeartbeats 8000000
namespace Go.Proofs.YtdibbemgpikgjaaGreatDoor
open Go Go.RowKit
structure Ze where
 name:ByteArray
 z:Zn
structure dD where
 e:Ze
 s:Zs
def dD.cells (x:dD):Array Value:= #[.string x.e.name,I x.e.z.cal.aY, .slice x.s.A x.e.z.cal.az.length x.s.a,I x.e.z.cal.dP, .slice x.s.B x.e.z.cal.rules.length x.s.b,I x.e.z.start, .slice x.s.C x.e.z.trans.length x.s.c,I x.e.z.hor, .slice x.s.D x.e.z.aK.length x.s.d]
structure Tb where
 aT:Int
 version:Int
 aJ:Int
 prev:List UInt8
 bz:List UInt8
 aS:List Ze
def lg (t:Tb) (vz:Value):List Value:= [I t.aT,I t.version,I t.aJ,vz]++(aj t.prev++aj t.bz)
def ai (t:Tb) (vz:Value):Array Value:=(lg t vz).toArray
section
variable (t:Tb) (vz:Value)
theorem jQ:(ai t vz)[0]? =some (I t.aT):=rfl
theorem jR:(ai t vz)[1]? =some (I t.version):=rfl
theorem kJ:(ai t vz)[2]? =some (I t.aJ):=rfl
theorem bC:(ai t vz)[3]? =some vz:=rfl
theorem bF (h:t.prev.length=32) (h2:t.bz.length=32):(ai t vz).size=68:=by simp [ai,lg,aj,h,h2]
theorem cu (h:t.prev.length=32) (h2:t.bz.length=32):(Tryz.prog.info? 37).map (·.size)=some (ai t vz).size:=by rw [bF t vz h h2];kernel_rfl
theorem oI {W:World} {b:Nat} (hr:Row W b (ai t vz)):W.rangeAt b 4 (aj t.prev):=fun j v hv=>by
 rw [hr.2 (4+j)];unfold ai lg;rw [List.getElem?_toArray,List.getElem?_append_right (by simp)];have hj:=(gu.1 hv).1;rw [show 4+j - [I t.aT,I t.version,I t.aJ,vz].length=j by simp,List.getElem?_append_left hj];exact hv
theorem Cm {W:World} {b:Nat} (hr:Row W b (ai t vz)) (hp:t.prev.length=32):W.rangeAt b 36 (aj t.bz):=fun j v hv=>by
 rw [hr.2 (36+j)];unfold ai lg;have hl:(aj t.prev).length=32:=by simp [aj,hp]
 rw [List.getElem?_toArray,List.getElem?_append_right (by simp;omega),List.getElem?_append_right (by simp [hl];omega)];rw [show 36+j - [I t.aT,I t.version,I t.aJ,vz].length - (aj t.prev).length=j by simp [hl];omega];exact hv
end
def Eg (w:World) (B:Nat) (A:Option Addr) (zs:List dD):Prop:=
 zs.length=0∨∃b,A=some ⟨b,0,none⟩∧b<B∧∀k x,zs[k]? =some x→w.rangeAt b (k*9) x.cells.toList∧fG w B x.s.A x.e.z.cal.az
theorem Eg.keep {w w':World} {B:Nat} {A:Option Addr} {zs:List dD} (h:Eg w B A zs) (hb:Below B w w'):Eg w' B A zs:=by
 rcases h with h|⟨b,h1,h2,h3⟩
 ·exact .inl h
 ·exact .inr ⟨b,h1,h2,fun k x hx=>⟨aN (h3 k x hx).1 hb h2,(h3 k x hx).2.keep hb⟩⟩
section
variable {P:Program} {ops:Array Oper} {Q:Exit→Act→World→Prop} {a:Act} {w:World} {rest:List Oper} {o:Oper}
theorem bY (hw:Region.wanted o (yielded ops a.tmps)=true) (ty:TypeId) (x:Operand) (ho:o.op= .load ty x) (g off:Nat) (hx:a.eval x= .pointer (some ⟨g,off,none⟩)) (cs:List Value) (hr:w.rangeAt g off cs)
  (d:TypeDesc) (hu:P.underlying ty=some d) (hd:d.isRow=true) (hi:(P.info? ty).map (·.size)=some cs.length)
  (h:wpList P ops Q rest (a.put o.dst (.agg cs.toArray)) w):wpList P ops Q (o::rest) a w:=by
 unfold wpList;rw [if_pos hw];exact .inl (wp_load_mid ty x ho g off hx cs d hr hu hd hi h)
end
structure kN (t:Tb):Prop where
 aT:0≤t.aT∧t.aT<16
 version:1≤t.version∧t.version≤64
 aJ:0≤t.aJ∧t.aJ<t.version
 prev:t.prev.length=32
 bz:t.bz.length=32
 first:t.version=1→t.prev=aX
 num:t.aS.length≤128
 flat:∀e∈t.aS,gU e.z
 short:∀e∈t.aS,e.name.size≤32
theorem zi (w:World) (base:Nat) (ty:TypeId) (v:Value) (n:Nat) (xs:List Value) (hown:w.ownsRow base 5 1 v n xs) (s:ByteArray) (hlen:n+s.size≤1000000000000) (hbase:base≤w.heap.size):
  ∃v' w',(Builtin.append_ #[32,9] ty #[v, .string s]).run Tryz.prog w= .ok v' w'∧w'.ownsRow base 5 1 v' (n+s.size) (xs++Lib.strCells s)∧w.grownBy w' v.ownBlock∧(v'.ownBlock=v.ownBlock∨v'.ownBlock=some w.heap.size):=by
 obtain ⟨i0,hi,hz0,hz1,hz2⟩:=info_parts kG;obtain ⟨v',w',hr,h2,h3,h4⟩:=Lib.run_append_own_string (P:=Tryz.prog) w base 32 9 ty 5 i0 Tryz.underlying32 Tryz.underlying9 hi hz0 hz1 hz2 v n xs hown s (by unfold maxLen;omega) (by omega) hbase;refine ⟨v',w',hr,h2,h3,?_⟩;have hxl:xs.length=n:=by simpa using hown.1
 rcases hown.2 with ⟨rfl,rfl⟩|⟨g,cap,cur,rfl,hbg,hg,hnc,hcm,hcs,htake⟩
 ·by_cases h0:s.size=0
  ·left;rw [h4.2 ⟨rfl,h0⟩]
  ·right;have hr':=run_append_nil_string (P:=Tryz.prog) w 32 9 ty 5 i0 (.int .u8 0) Tryz.underlying32 Tryz.underlying9 hi hz0 s (by omega) (by omega) (by rw [hz2];omega);rw [hr] at hr';injection hr' with hv _;rw [hv];rfl
 ·by_cases hroom:n+s.size≤cap
  ·left;have hr':=Lib.run_append_room_string (P:=Tryz.prog) w 32 9 ty 5 i0 Tryz.underlying32 Tryz.underlying9 hi hz1 g n cap cur hg s hroom (by omega);rw [hr] at hr';injection hr' with hv _;rw [hv];rfl
  ·right;have holds:∀j u,xs[j]? =some u→w.cell? ((⟨g,0,none⟩:Addr).add j)=some u:=hown.cells (g:=g) rfl;have hr':=Lib.run_append_grow_string (P:=Tryz.prog) w 32 9 ty 5 i0 (.int .u8 0) Tryz.underlying32 Tryz.underlying9 hi hz0 ⟨g,0,none⟩ n cap xs (by rw [hz1];omega) holds s (by omega) (by omega) (by rw [hz2];exact growslice_fits (by omega) (by omega));rw [hr] at hr';injection hr' with hv _;rw [hv];rfl
theorem CY {ops:Array Oper} {rest:List Oper} {o:Oper} {a:Act} {Q:Exit→Act→World→Prop} {w:World} (hgd:o.guard=none) (sl x:Operand)
  (ho:o.op= .call {callee:= .builtin .append,args:= #[sl,x],argTypes:= #[32,9]}) (base:Nat) (v:Value) (n:Nat) (xs:List Value) (hs:a.eval sl=v) (hown:w.ownsRow base 5 1 v n xs) (s:ByteArray) (hx:a.eval x= .string s)
  (hlen:n+s.size≤1000000000000) (hbase:base≤w.heap.size)
  (h:∀v' w',w'.ownsRow base 5 1 v' (n+s.size) (xs++Lib.strCells s)→w.grownBy w' v.ownBlock→(v'.ownBlock=v.ownBlock∨v'.ownBlock=some w.heap.size)→wpList Tryz.prog ops Q rest (a.put o.dst v') w'):wpList Tryz.prog ops Q (o::rest) a w:=by
 refine wpList_plain hgd fun K hK=>?_;obtain ⟨v',w',hr,h2,h3,h4⟩:=zi w base o.type v n xs hown s hlen hbase;unfold Oper.wp execOp;simp only [ho,resolve,invoke,builtin,Sem.run_bind,Sem.run_pure,Result.andThen_ok,List.map_toArray,List.map_cons,List.map_nil,hs,hx,hr];exact hK _ _ (h v' w' h2 h3 h4)
theorem Gm {ops:Array Oper} {o:Oper} {a:Act} {Q:Exit→Act→World→Prop} {K:Act→World→Prop} {E:Prop} {w:World} (hgd:o.guard=none) (sl x:Operand)
  (ho:o.op= .call {callee:= .builtin .append,args:= #[sl,x],argTypes:= #[32,9]}) (base:Nat) (v:Value) (n:Nat) (xs:List Value) (hs:a.eval sl=v) (hown:w.ownsRow base 5 1 v n xs) (s:ByteArray) (hx:a.eval x= .string s)
  (hlen:n+s.size≤1000000000000) (hbase:base≤w.heap.size) (hpos:0<n+s.size)
  (h:∀g' cap' w',w'.ownsRow base 5 1 (.slice (some ⟨g',0,none⟩) (n+s.size) cap') (n+s.size) (xs++Lib.strCells s)→w.grownBy w' v.ownBlock→((Value.slice (some ⟨g',0,none⟩) (n+s.size) cap').ownBlock=v.ownBlock∨(Value.slice (some ⟨g',0,none⟩) (n+s.size) cap').ownBlock=some w.heap.size)→K (a.put o.dst (.slice (some ⟨g',0,none⟩) (n+s.size) cap')) w'):if Region.wanted o (yielded ops a.tmps)=true then Oper.wp Tryz.prog o a w K Q else E:=by
 have hw:Region.wanted o (yielded ops a.tmps)=true:=by simp [Region.wanted,hgd]
 rw [if_pos hw];obtain ⟨v',w',hr,h2,h3,h4⟩:=zi w base o.type v n xs hown s hlen hbase;obtain ⟨g',cap',rfl,_⟩:=dE h2 hpos;unfold Oper.wp execOp;simp only [ho,resolve,invoke,builtin,Sem.run_bind,Sem.run_pure,Result.andThen_ok,List.map_toArray,List.map_cons,List.map_nil,hs,hx,hr];exact h _ _ _ h2 h3 h4
theorem IY (w:World) (bb off c:Nat) (s:ByteArray) (h:∀j,j<s.size→w.cell? ⟨bb,off+j,none⟩=some (Extern.Stop.cell (s.data.toList[j]?.getD 0))):
  (convert 32 9 (.slice (some ⟨bb,off,none⟩) s.size c)).run Tryz.prog w= .ok (.string s) w:=by
 have e:strOfNums (s.data.toList.map fun (b:UInt8)=>((b.toNat:Nat):Int))=s:=by
  unfold strOfNums;rw [List.map_map];have:((fun n:Int=>UInt8.ofNat n.toNat) ∘ fun (b:UInt8)=>((b.toNat:Nat):Int))=id:=by
   funext b;simp
  rw [this,List.map_id]
 have hl:s.data.toList.length=s.size:=Array.length_toList;have hr:=run_convert_bytes_arg (P:=Tryz.prog) w 32 5 Tryz.underlying32 Tryz.underlying5 bb off s.size c (s.data.toList.map fun (b:UInt8)=>((b.toNat:Nat):Int)) (by rw [List.length_map,hl]) (fun i hi=>by
  rw [h i hi];have hx:s.data.toList[i]? =some s.data.toList[i]:=dw (by omega);rw [hx,List.getD_eq_getElem?_getD,List.getElem?_map,hx];rfl) 9 Tryz.underlying9
 rw [e] at hr;exact hr
def eY (w:World) (g:Nat) (v:Value) (bs:List UInt8):Prop:=
 w.heap[g]? =some (.cells #[v] 79 (0,0))∧w.ownsRow (g+1) 5 1 v bs.length (bs.map Extern.Stop.cell)
theorem PW {w w1:World} {g:Nat} {v v':Value} {bs:List UInt8} {c:UInt8} {o:Obj} (h:eY w g v bs) (hg:g<w.heap.size)
  (hown:w1.ownsRow (g+1) 5 1 v' (bs.length+1) (bs.map Extern.Stop.cell++ [Extern.Stop.cell c])) (hgrow:(w.alloc o).grownBy w1 v.ownBlock)
  (hat:v'.ownBlock=v.ownBlock∨v'.ownBlock=some (w.heap.size+1)):
  w1.heap[g]? =some (.cells #[v] 79 (0,0))∧eY (w1.setCell ⟨g,0,none⟩ v') g v' (bs++ [c])∧gX g v w v' (w1.setCell ⟨g,0,none⟩ v'):=by
 have hne:some g≠v.ownBlock:=eQ h.2 g (Nat.lt_succ_self g);have hg1:w1.heap[g]? =some (.cells #[v] 79 (0,0)):=by
  rw [hgrow.block g (by simp;omega) hne,Below.heap_alloc w o g hg];exact h.1
 refine ⟨hg1,⟨?_,?_⟩,?_⟩
 ·rw [heap_setCell_same w1 g 0 _ _ v' hg1];rfl
 ·have:=dW (u:=v') (p:=⟨g,0,none⟩) hown (eQ hown g (Nat.lt_succ_self g));simpa using this
 ·refine ⟨hgrow.os,hgrow.tape,hgrow.output,?_,fun k hk hkg hkv=>?_,?_⟩
  ·have:=hgrow.size;simp [World.setCell] at this ⊢;omega
  ·rw [heap_setCell_other w1 _ k v' hkg,hgrow.block k (by simp;omega) hkv,Below.heap_alloc w o k hk]
  ·rcases hat with e|e
   ·exact .inl e
   ·exact .inr ⟨_,e,by omega⟩
def fD (w:World) (g:Nat) (v:Value) (bs:List UInt8) (e:Ending) (w':World):Prop:=
 e= .returned (.tuple #[])∧∃v',eY w' g v' bs∧gX g v w v' w'
def TwRel (w:World) (g:Nat) (v:Value) (bs:List UInt8) (n:Int) (size:Nat) (x i:Value) (wr:World):Prop:=
 ∃k:Nat,k≤size∧i= .int .i64 k∧x= .int .i64 (jP n k)∧∃v',eY wr g v' (bs++le n k)∧gX g v w v' wr
theorem bG (w:World) (g:Nat) (p:Addr) (v:Value) (bs:List UInt8) (n:Int) (size:Nat) (hn0: -9223372036854775808≤n) (hn1:n≤9223372036854775807) (hs:size≤8) (hl:bs.length≤1099511627776) (hg:g<w.heap.size) (hst:eY w g v bs) (hp:w.cell? p=some (I n)):
  Calls Tryz.prog 170 #[pt g, .pointer (some p),I size] w (fD w g v (bs++le n size)):=by
 obtain ⟨i0,hi,hz0,hz1,hz2⟩:=info_parts kG;have HST:=ae hst;clear hst;go_enter Tryz.func170,Tryz.ntmps170
 go_wp2
 go_loopw [6,11] (fun x i wr=>TwRel w g v bs n size x i wr) (fun _ i _=>size - (intOf i).toNat)
 case atStart=>exact ⟨0,Nat.zero_le _,rfl,rfl,v,by simpa [le] using HST.out,gX.refl _ _ _⟩
 case round=>
  obtain ⟨k,hk,rfl,rfl,v1,hw1,hk1⟩:=hrel;by_cases hlt:k<size
  ·obtain ⟨x,hx⟩:∃x,jP n k=x:=⟨_,rfl⟩;have hbd:=MB n k hn0 hn1;rw [hx] at hbd ⊢;have HX:=ae hx;obtain ⟨B,hB⟩:∃B,bs++le n k=B:=⟨_,rfl⟩;have hlen:B.length≤1099511627784:=by rw [←hB,aZ,aC];omega
   rw [hB] at hw1;have HBB:=ae hB;have hc:=cell_of_row wr g 0 _ _ _ hw1.1;have hgr:g<wr.heap.size:=dQ hg hk1.size;have HW:=ae hw1;have HK:=ae hk1;have hown:=ae hw1.2;clear hx hw1 hk1 hB;go_wp2_with (at_builtin;refine wpList_append_own_at _ rfl _ _ 32 rfl (g+1) 5 i0 (.int .u8 0) 1 1 Tryz.underlying32 hi hz0 hz1 hz2 rfl (by decide) _ _ _ rfl (hown.out.alloc _) ⟨wr.heap.size,0,none⟩ 1 1 [Extern.Stop.cell (byteOf x)] rfl rfl ?c1 ?c2 ?c3 ?c4 ?c5 ?_)
   case c1=>
    rw [dK];exact cell_one_new _ _ _
   case c2=>intro u hu;simp at hu;subst hu;rfl
   case c3=>unfold maxLen;omega
   case c4=>omega
   case c5=>simp;omega
   intro v' w1 hown' hgrow _ hat;obtain ⟨hg1,hst1,hkp1⟩:=PW HW.out hgr hown' hgrow hat;obtain ⟨g',cap',rfl,_⟩:=dE hown' (Nat.succ_pos _);have hc1:=cell_of_row w1 g 0 _ _ _ hg1;have hf1:=frozen_of_row w1 g 0 _ _ hg1;have HST1:=ae hst1;have HKP1:=ae hkp1;clear hown' hgrow hat hg1 hst1 hkp1 hc
   go_wp2
   go_roundw
   case rel=>exact ⟨k+1,by omega,by go_num,by unfold jP;rw [HX.out],_,by rw [FY,←List.append_assoc,HBB.out,HX.out];exact HST1.out,HK.out.trans HKP1.out⟩
   case measure=>simp [intOf];omega
  ·have hke:k=size:=by omega
   have AB:=ae hke;have HW:=ae hw1;have HK:=ae hk1;clear hke hw1 hk1
   go_wp2
   go_end0
   exact ⟨rfl,v1,by rw [←AB.out];exact HW.out,HK.out⟩
theorem eY.lt {w:World} {g:Nat} {v:Value} {bs:List UInt8} (h:eY w g v bs):g<w.heap.size:=(bT.1 h.1).1
theorem eY.grow {w w':World} {g:Nat} {v:Value} {bs:List UInt8} (h:eY w g v bs) (hb:Below w.heap.size w w'):eY w' g v bs∧gX g v w v w':=
 ⟨⟨(hb.block g h.lt).trans h.1,dF h.2 fun k _ hk=>hb.block k hk⟩,⟨hb.os,hb.tape,hb.output,hb.size,fun k hk _ _=>hb.block k hk, .inl rfl⟩⟩
theorem eY.far {w w':World} {g:Nat} {v v':Value} {bs:List UInt8} (_h:eY w g v bs) (hk:gX g v w v' w') (b:Nat) (hb:b<w.heap.size) (hg:b≠g) (ho:some b≠v.ownBlock):w'.heap[b]? =w.heap[b]? :=hk.block b hb hg ho
theorem eY.new_ne {w:World} {g:Nat} {v:Value} {bs:List UInt8} (h:eY w g v bs):w.heap.size≠g∧some w.heap.size≠v.ownBlock:=
 ⟨by have:=h.lt;omega,fun e=>by have:=LQ h.2 _ e.symm;omega⟩
theorem fO (w:World) (g:Nat) (v:Value) (bs:List UInt8) (n:Int) (size:Nat) (hn0: -9223372036854775808≤n) (hn1:n≤9223372036854775807) (hs:size≤8) (hl:bs.length≤1099511627776) (hst:eY w g v bs):
  Calls Tryz.prog 169 #[pt g,I n,I size] w fun e w'=>e= .returned (I n)∧∃v',eY w' g v' (bs++le n size)∧gX g v w v' w':=by
 obtain ⟨h1,h2⟩:=hst.grow (ag w (.cells #[I n] 3));have hne:=hst.new_ne;have HC:=ae (bG (w.alloc (.cells #[I n] 3)) g ⟨w.heap.size,0,none⟩ v bs n size hn0 hn1 hs hl h1.lt h1 ((Row.new w #[I n] 3).2 0));have HB:=ae (heap_alloc_last w (.cells #[I n] 3));have H1:=ae h1;have H2:=ae h2;have Nv:=ae hne;clear h1 h2 hst hne;go_enter Tryz.func169,Tryz.ntmps169;go_wp2_with fail;refine HC.out.mono ?_;rintro e w1 ⟨rfl,v1,hs1,hk1⟩;have k1:w1.cell? ⟨w.heap.size,0,none⟩=some (I n):=cell_of_row w1 _ 0 _ _ _ ((H1.out.far hk1 w.heap.size (by simp) Nv.out.1 Nv.out.2).trans HB.out);have HS:=ae hs1;have HK:=ae (H2.out.trans hk1);clear hs1 hk1 HC;go_wp2_with fail;go_ret;exact ⟨rfl,v1,HS.out,HK.out⟩
theorem Jl {w W w1:World} {g m:Nat} {v v':Value} {bs xs:List UInt8} (h:eY w g v bs) (hW:W.heap=w.heap) (h1:W.os=w.os) (h2:W.tape=w.tape) (h3:W.output=w.output) (hm:m=bs.length+xs.length)
  (hown:w1.ownsRow (g+1) 5 1 v' m (bs.map Extern.Stop.cell++xs.map Extern.Stop.cell)) (hgrow:W.grownBy w1 v.ownBlock) (hat:v'.ownBlock=v.ownBlock∨v'.ownBlock=some w.heap.size):
  w1.heap[g]? =some (.cells #[v] 79 (0,0))∧eY (w1.setCell ⟨g,0,none⟩ v') g v' (bs++xs)∧gX g v w v' (w1.setCell ⟨g,0,none⟩ v'):=by
 subst hm;have hg:=h.lt;have hne:some g≠v.ownBlock:=eQ h.2 g (Nat.lt_succ_self g);have hg1:w1.heap[g]? =some (.cells #[v] 79 (0,0)):=by
  rw [hgrow.block g (by rw [hW];exact hg) hne,hW];exact h.1
 refine ⟨hg1,⟨?_,?_⟩,?_⟩
 ·rw [heap_setCell_same w1 g 0 _ _ _ hg1];rfl
 ·have:=dW (u:=v') (p:=⟨g,0,none⟩) hown (eQ hown g (Nat.lt_succ_self g));simpa using this
 ·refine ⟨hgrow.os.trans h1,hgrow.tape.trans h2,hgrow.output.trans h3,?_,fun k hk hkg hkv=>?_,?_⟩
  ·have:=hgrow.size;rw [hW] at this;simp [World.setCell];omega
  ·rw [heap_setCell_other w1 _ k _ hkg,hgrow.block k (by rw [hW];exact hk) hkv,hW]
  ·exact hat.elim .inl fun e=> .inr ⟨_,e,Nat.le_refl _⟩
theorem qj (w:World) (g:Nat) (p:Addr) (v:Value) (bs:List UInt8) (n:Int) (hn0: -9223372036854775808≤n) (hn1:n≤9223372036854775807) (hl:bs.length≤1099511627776) (hst:eY w g v bs) (hp:w.cell? p=some (I n)):
  Calls Tryz.prog 171 #[pt g, .pointer (some p)] w (fD w g v (bs++le n 2)):=by
 have HC:=ae (bG w g p v bs n 2 hn0 hn1 (by omega) hl hst.lt hst hp);clear hst hp;go_enter Tryz.func171,Tryz.ntmps171;go_wp2_with fail;refine HC.out.mono ?_;rintro e w1 ⟨rfl,h⟩;have H:=ae h;clear h HC;go_wp2_with fail
 go_end0
 exact ⟨rfl,H.out⟩
theorem zl (w:World) (g db off:Nat) (v:Value) (bs ds:List UInt8) (hl:bs.length≤1000000000000) (hd:w.rangeAt db off (aj ds)) (h32:ds.length=32) (hst:eY w g v bs):
  Calls Tryz.prog 167 #[pt g, .pointer (some ⟨db,off,none⟩)] w (fD w g v (bs++ds)):=by
 have hc0:w.cell? ⟨g,0,none⟩=some v:=cell_of_row w g 0 _ _ _ hst.1;have hgl:g<w.heap.size:=hst.lt;have HI:=ae hst;obtain ⟨i0,hi,hz0,hz1,hz2⟩:=info_parts kG;have hnews:∀j u,(aj ds)[j]? =some u→w.drew.cell? ((⟨db,off,none⟩:Addr).add j)=some u:=fun j u hu=>by
  rw [Addr.add_mid];exact hd j u hu
 have hmx:bs.length+32≤maxLen:=by unfold maxLen;omega
 have hby:(bs.length+32)*1≤140737488355328:=by omega
 clear hst hd;go_enter Tryz.func167,Tryz.ntmps167;go_wp2_with fail
 go_region_law ((refine step_append_lies _ (by rfl) _ _ _ (by rfl) (g+1) 5 i0 _ 1 1 Tryz.underlying32 hi hz0 hz1 hz2 rfl (by omega) v bs.length (bs.map Extern.Stop.cell) (by rfl) (HI.out.2.drew) ⟨db,off,none⟩ 32 32 (aj ds) (by rfl) (by simp [aj,h32]) hnews (nC ds) (by omega) hmx hby (Nat.succ_le_of_lt hgl) w.heap.size rfl ?_;intro gg cap w1 hown1 hgrow hat hlt;have hS:=Jl (w:=w) (W:=w.drew) (xs:=ds) (m:=bs.length+32) HI.out rfl rfl rfl rfl (by rw [h32]) hown1 hgrow (hat.elim (fun e=> .inl e.symm) (fun e=> .inr (by rw [←e];rfl)));have hc2:w1.cell? ⟨g,0,none⟩=some v:=cell_of_row w1 g 0 _ _ _ hS.1;have hf2:=frozen_of_row w1 g 0 _ _ hS.1;have su:=ae hS;clear hS hown1 hgrow hat hlt))
 all_goals
  go_wp2
  go_end0
  exact ⟨rfl,_,su.out.2.1,su.out.2.2⟩
theorem EO (w:World) (g:Nat) (p:Addr) (v:Value) (bs:List UInt8) (s:ByteArray) (hs:s.size≤1000000) (hl:bs.length≤1000000000) (hst:eY w g v bs) (hp:w.cell? p=some (.string s)) (hpg:p.block≠g) (hpv:some p.block≠v.ownBlock) (hpl:p.block<w.heap.size):
  Calls Tryz.prog 172 #[pt g, .pointer (some p)] w (fD w g v (bs++(le s.size 1++s.data.toList))):=by
 have HC:=ae (fO w g v bs s.size 1 (by omega) (by omega) (by omega) (by omega) hst);have HST:=ae hst;have HPK:=ae (show p.block≠g∧some p.block≠v.ownBlock from ⟨hpg,hpv⟩);clear hst hpg hpv;go_enter Tryz.func172,Tryz.ntmps172;go_wp2_with fail;refine HC.out.mono ?_;rintro e w1 ⟨rfl,v1,hw1,hk1⟩;have hlen:(bs++le (s.size:Int) 1).length≤1000000008:=by rw [aZ,aC];omega
 have hpos:0<(bs++le (s.size:Int) 1).length:=by rw [aZ,aC];omega
 obtain ⟨B,hB⟩:∃B,bs++le (s.size:Int) 1=B:=⟨_,rfl⟩;rw [hB] at hw1 hlen hpos;have hp1:w1.cell? p=some (.string s):=(World.cell?_of_block (hk1.block p.block hpl HPK.out.1 HPK.out.2)).trans hp;have HB:=ae hB;have HW:=ae hw1;have HK:=ae hk1;have hc1:=cell_of_row w1 g 0 _ _ _ hw1.1;have hgl:g<w1.heap.size:=hw1.lt;clear hB hw1 hk1 HC hp;go_wp2_with fail
 go_region_law ((refine Gm (by rfl) _ _ (by rfl) (g+1) v1 B.length (B.map Extern.Stop.cell) (by rfl) (HW.out.2.drew) s (by rfl) (by omega) (Nat.succ_le_of_lt hgl) (by omega) ?_;intro gg cap w2 hown2 hgrow hat;have hS:=Jl (w:=w1) (W:=w1.drew) (xs:=s.data.toList) (m:=B.length+s.size) HW.out rfl rfl rfl rfl (by rw [Array.length_toList];rfl) hown2 hgrow hat;have hc2:w2.cell? ⟨g,0,none⟩=some v1:=cell_of_row w2 g 0 _ _ _ hS.1;have hf2:=frozen_of_row w2 g 0 _ _ hS.1;have su:=ae hS;clear hS hown2 hgrow hat))
 all_goals
  go_wp2
  go_end0
  exact ⟨rfl,_,by rw [←List.append_assoc,HB.out];exact su.out.2.1,HK.out.trans su.out.2.2⟩
theorem mD (n:Nat) (a:Addr) (w:World):(method (n+1) 77 (.pointer (some a)) "kalends/table.number").run Tryz.prog w= .ok (170, .pointer (some a)) w:=by kernel_rfl
theorem mM (n:Nat) (a:Addr) (w:World):(nilAhead (n+1) 77 (.pointer (some a)) "kalends/table.number").run Tryz.prog w= .ok (some false) w:=by kernel_rfl
theorem kT (n:Nat) (a:Addr) (w:World):(method (n+1) 134 (.pointer (some a)) "kalends/table.number").run Tryz.prog w= .ok (176, .pointer (some a)) w:=by kernel_rfl
theorem kX (n:Nat) (a:Addr) (w:World):(nilAhead (n+1) 134 (.pointer (some a)) "kalends/table.number").run Tryz.prog w= .ok (some false) w:=by kernel_rfl
theorem mF (n:Nat) (a:Addr) (w:World):(method (n+1) 77 (.pointer (some a)) "kalends/table.offset").run Tryz.prog w= .ok (171, .pointer (some a)) w:=by kernel_rfl
theorem mO (n:Nat) (a:Addr) (w:World):(nilAhead (n+1) 77 (.pointer (some a)) "kalends/table.offset").run Tryz.prog w= .ok (some false) w:=by kernel_rfl
theorem kU (n:Nat) (a:Addr) (w:World):(method (n+1) 134 (.pointer (some a)) "kalends/table.offset").run Tryz.prog w= .ok (177, .pointer (some a)) w:=by kernel_rfl
theorem kY (n:Nat) (a:Addr) (w:World):(nilAhead (n+1) 134 (.pointer (some a)) "kalends/table.offset").run Tryz.prog w= .ok (some false) w:=by kernel_rfl
theorem qP (n:Nat) (a:Addr) (w:World):(method (n+1) 77 (.pointer (some a)) "kalends/table.text").run Tryz.prog w= .ok (172, .pointer (some a)) w:=by kernel_rfl
theorem qR (n:Nat) (a:Addr) (w:World):(nilAhead (n+1) 77 (.pointer (some a)) "kalends/table.text").run Tryz.prog w= .ok (some false) w:=by kernel_rfl
theorem pg (n:Nat) (a:Addr) (w:World):(method (n+1) 134 (.pointer (some a)) "kalends/table.text").run Tryz.prog w= .ok (178, .pointer (some a)) w:=by kernel_rfl
theorem pz (n:Nat) (a:Addr) (w:World):(nilAhead (n+1) 134 (.pointer (some a)) "kalends/table.text").run Tryz.prog w= .ok (some false) w:=by kernel_rfl
theorem mg (n:Nat) (a:Addr) (w:World):(method (n+1) 77 (.pointer (some a)) "kalends/table.digest").run Tryz.prog w= .ok (167, .pointer (some a)) w:=by kernel_rfl
theorem mG (n:Nat) (a:Addr) (w:World):(nilAhead (n+1) 77 (.pointer (some a)) "kalends/table.digest").run Tryz.prog w= .ok (some false) w:=by kernel_rfl
theorem kR (n:Nat) (a:Addr) (w:World):(method (n+1) 134 (.pointer (some a)) "kalends/table.digest").run Tryz.prog w= .ok (173, .pointer (some a)) w:=by kernel_rfl
theorem kV (n:Nat) (a:Addr) (w:World):(nilAhead (n+1) 134 (.pointer (some a)) "kalends/table.digest").run Tryz.prog w= .ok (some false) w:=by kernel_rfl
theorem mr (n:Nat) (a:Addr) (w:World):(method (n+1) 77 (.pointer (some a)) "kalends/table.length").run Tryz.prog w= .ok (169, .pointer (some a)) w:=by kernel_rfl
theorem mJ (n:Nat) (a:Addr) (w:World):(nilAhead (n+1) 77 (.pointer (some a)) "kalends/table.length").run Tryz.prog w= .ok (some false) w:=by kernel_rfl
theorem kS (n:Nat) (a:Addr) (w:World):(method (n+1) 134 (.pointer (some a)) "kalends/table.length").run Tryz.prog w= .ok (175, .pointer (some a)) w:=by kernel_rfl
theorem kW (n:Nat) (a:Addr) (w:World):(nilAhead (n+1) 134 (.pointer (some a)) "kalends/table.length").run Tryz.prog w= .ok (some false) w:=by kernel_rfl
theorem SV (n:Nat) (a:Addr) (w:World):(method (n+1) 77 (.pointer (some a)) "kalends/table.flag").run Tryz.prog w= .ok (168, .pointer (some a)) w:=by kernel_rfl
theorem Ti (n:Nat) (a:Addr) (w:World):(nilAhead (n+1) 77 (.pointer (some a)) "kalends/table.flag").run Tryz.prog w= .ok (some false) w:=by kernel_rfl
theorem jc {w:World} {b o:Nat} {v:Value} (h:w.cell? ⟨b,o,none⟩=some v):w.setCell ⟨b,o,none⟩ v=w:=by
 have hh:(w.setCell ⟨b,o,none⟩ v).heap=w.heap:=by
  apply Array.ext_getElem?;intro k;by_cases hk:k=b
  ·subst hk;unfold World.cell? at h;simp only [World.setCell,Array.getElem?_modify];cases hb:w.heap[k]? with
   |none=>simp
   |some x=>
    cases x with
    |cells c e f=>
     rw [hb] at h;simp at h ⊢;exact (by
      apply Array.ext_getElem?;intro i;rw [Array.getElem?_setIfInBounds];split
      ·rename_i e;subst e;split
       ·exact h.symm
       ·rename_i e2;rw [Array.getElem?_eq_none (by omega)] at h;cases h
      ·rfl)
    |_=>simp
  ·exact heap_setCell_other w _ k v hk
 exact (show w.setCell ⟨b,o,none⟩ v= {w with heap:=(w.setCell ⟨b,o,none⟩ v).heap} from rfl).trans (by rw [hh])
theorem DN (c:Nat) (w:World):Calls Tryz.prog 60 #[.slice none 0 c] w fun e w'=>e= .returned (.slice none 0 0)∧w'=w:=by
 have heq:∀W,(binOp .eql 61 (.slice none 0 c) (.slice none 0 0)).run Tryz.prog W= .ok (.bool true) W:=fun W=>by simp [binOp,run_equal_slice_nil W 61 125 none 0 c Tryz.underlying61]
 go_enter Tryz.func60,Tryz.ntmps60
 go_wp2
 go_ret;exact ⟨rfl,rfl⟩
theorem BB (c:Nat) (w:World):Calls Tryz.prog 61 #[.slice none 0 c] w fun e w'=>e= .returned (.slice none 0 0)∧w'=w:=by
 have heq:∀W,(binOp .eql 64 (.slice none 0 c) (.slice none 0 0)).run Tryz.prog W= .ok (.bool true) W:=fun W=>by simp [binOp,run_equal_slice_nil W 64 127 none 0 c Tryz.underlying64]
 go_enter Tryz.func61,Tryz.ntmps61
 go_wp2
 go_ret;exact ⟨rfl,rfl⟩
theorem DR (c:Nat) (w:World):Calls Tryz.prog 62 #[.slice none 0 c] w fun e w'=>e= .returned (.slice none 0 0)∧w'=w:=by
 have heq:∀W,(binOp .eql 65 (.slice none 0 c) (.slice none 0 0)).run Tryz.prog W= .ok (.bool true) W:=fun W=>by simp [binOp,run_equal_slice_nil W 65 129 none 0 c Tryz.underlying65]
 go_enter Tryz.func62,Tryz.ntmps62
 go_wp2
 go_ret;exact ⟨rfl,rfl⟩
theorem Il (c:Nat) (w:World):Calls Tryz.prog 47 #[.slice none 0 c] w fun e w'=>e= .returned (.slice none 0 0)∧w'=w:=by
 have heq:∀W,(binOp .eql 35 (.slice none 0 c) (.slice none 0 0)).run Tryz.prog W= .ok (.bool true) W:=fun W=>by simp [binOp,run_equal_slice_nil W 35 90 none 0 c Tryz.underlying35]
 go_enter Tryz.func47,Tryz.ntmps47
 go_wp2
 go_ret;exact ⟨rfl,rfl⟩
theorem dm {w W w':World} {base e size n:Nat} {v:Value} {ys:List Value} (hb:Below base w W) (hown:W.ownsRow base e size v n ys) (hle:base≤W.heap.size) (hg:W.grownBy w' v.ownBlock):Below base w w':=
 ⟨hg.os.trans hb.os,hg.tape.trans hb.tape,hg.output.trans hb.output,Nat.le_trans hb.size hg.size,fun k hk=>(hg.block k (by omega) (eQ hown k hk)).trans (hb.block k hk)⟩
theorem gI (w:World) (e size:Nat):(w.alloc (.cells #[] e)).ownsRow w.heap.size e size (.slice (some ⟨w.heap.size,0,none⟩) 0 0) 0 []:=
 ⟨by simp, .inr ⟨w.heap.size,0,#[],rfl,Nat.le_refl _,heap_alloc_last w _,Nat.le_refl _,Nat.zero_le _,by simp,by simp⟩⟩
def ClI (w:World) (zs:List Int) (n:Nat) (e:Ending) (w':World):Prop:=
 ∃g c,e= .returned (.slice (some ⟨g,0,none⟩) n c)∧w'.ownsRow w.heap.size 3 1 (.slice (some ⟨g,0,none⟩) n c) n (zs.map I)∧Below w.heap.size w w'
theorem Ik (b off c:Nat) (zs:List Int) (n:Nat) (w:World) (hA:∀j,j<zs.length→w.cell? ⟨b,off+j,none⟩=some (I (zs[j]?.getD 0))) (hb:b<w.heap.size) (hl:zs.length=n) (h0:0<n) (hn:n≤10000):
  Calls Tryz.prog 59 #[.slice (some ⟨b,off,none⟩) n c] w (ClI w zs n):=by
 have HN:Hid (∀j u,(zs.map I)[j]? =some u→(w.alloc (.cells #[] 3)).cell? ((⟨b,off,none⟩:Addr).add j)=some u):=ae fun j u hu=>by
  rw [List.getElem?_map] at hu;obtain ⟨z,hz,rfl⟩:=Option.map_eq_some_iff.1 hu;have hj:j<zs.length:=(gu.1 hz).1;rw [Addr.add_mid,World.cell?_of_block (Below.heap_alloc w _ b hb),hA j hj,hz];rfl
 have HO:=ae (gI w 3 1);have HL:=ae hl;have HB:=ae (ag w (.cells #[] 3));obtain ⟨i0,hi,hz0,hz1,hz2⟩:=info_parts uu;have HI:=ae hi;have HZ0:=ae hz0;have HZ1:=ae hz1;have HZ2:=ae hz2;have heq:∀W,(binOp .eql 60 (.slice (some ⟨b,off,none⟩) n c) (.slice none 0 0)).run Tryz.prog W= .ok (.bool false) W:=fun W=>by simp [binOp,run_equal_slice_nil W 60 3 (some ⟨b,off,none⟩) n c Tryz.underlying60]
 clear hA hl hi hz0 hz1 hz2;go_enter Tryz.func59,Tryz.ntmps59;go_wp2_with (at_builtin;refine wpList_append_own_at _ rfl _ _ 60 rfl w.heap.size 3 i0 (.int .i64 0) 1 8 Tryz.underlying60 HI.out HZ0.out HZ1.out HZ2.out rfl (by decide) _ 0 [] rfl HO.out ⟨b,off,none⟩ n c (zs.map I) rfl (by rw [List.length_map,HL.out];omega) HN.out (by intro u hu;obtain ⟨z,_,rfl⟩:=List.mem_map.1 hu;rfl) (by unfold maxLen;omega) (by omega) (by simp) ?_);intro v' w' hown hg _ _;have HB2:=ae (dm HB.out HO.out (by simp) hg);obtain ⟨g,cap,rfl,_⟩:=dE hown h0;have HOW:=ae hown;clear hown hg;go_wp2_with fail;go_ret;exact ⟨g,cap,rfl,HOW.out,HB2.out⟩
def aO (zs:List dD):List Value:=zs.flatMap fun x=>x.cells.toList
theorem dM (zs:List dD):(aO zs).length=zs.length*9:=by
 induction zs with
 |nil=>rfl
 |cons x zs ih=>unfold aO at ih ⊢;rw [List.flatMap_cons,aZ,ih,List.length_cons];show 9+zs.length*9=_;omega
theorem wR (zs:List dD):∀u∈aO zs,u.oneCell'=true:=by
 intro u hu;unfold aO at hu;obtain ⟨x,_,hx⟩:=List.mem_flatMap.1 hu;have h:x.cells.all (·.oneCell')=true:=by kernel_rfl
 rw [Array.all_eq_true_iff_forall_mem] at h;exact h u (by simpa using hx)
theorem lD (zs:List dD) (k j:Nat) (x:dD) (hx:zs[k]? =some x) (hj:j<9):(aO zs)[k*9+j]? =x.cells[j]? :=by
 induction zs generalizing k with
 |nil=>cases hx
 |cons y zs ih=>
  unfold aO at ih ⊢;rw [List.flatMap_cons];have h9:y.cells.toList.length=9:=rfl;cases k with
  |zero=>
   injection hx with hx;subst hx;rw [Nat.zero_mul,Nat.zero_add,List.getElem?_append_left (by omega)];simp
  |succ k=>
   rw [List.getElem?_append_right (by omega),h9,show (k+1)*9+j - 9=k*9+j by omega];exact ih k hx
def jo:Array Value:= #[.string ⟨#[]⟩,I 0, .slice none 0 0,I 0, .slice none 0 0,I 0, .slice none 0 0,I 0, .slice none 0 0]
theorem xn:(Tryz.prog.info? 90).map (fun i=>(i.zero,i.size,i.bytes))=some (some (.agg jo),9,144):=by kernel_rfl
def ClZ (w:World) (zs:List dD) (n:Nat) (e:Ending) (w':World):Prop:=
 ∃g c,e= .returned (.slice (some ⟨g,0,none⟩) n c)∧w'.ownsRow w.heap.size 90 9 (.slice (some ⟨g,0,none⟩) n c) n (aO zs)∧Below w.heap.size w w'
theorem FB (b c:Nat) (zs:List dD) (n:Nat) (w:World) (hA:∀j u,(aO zs)[j]? =some u→w.cell? ⟨b,j,none⟩=some u) (hb:b<w.heap.size) (hl:zs.length=n) (h0:0<n) (hn:n≤10000):
  Calls Tryz.prog 47 #[.slice (some ⟨b,0,none⟩) n c] w (ClZ w zs n):=by
 have HN:Hid (∀j u,(aO zs)[j]? =some u→(w.alloc (.cells #[] 90)).cell? ((⟨b,0,none⟩:Addr).add j)=some u):=ae fun j u hu=>by
  rw [addr_add,World.cell?_of_block (Below.heap_alloc w _ b hb)];exact hA j u hu
 have HO:=ae (gI w 90 9);have HL:=ae (show (aO zs).length=n*9 by rw [dM,hl]);have HB:=ae (ag w (.cells #[] 90));obtain ⟨i0,hi,hz0,hz1,hz2⟩:=info_parts xn;have HI:=ae hi;have HZ0:=ae hz0;have HZ1:=ae hz1;have HZ2:=ae hz2;have heq:∀W,(binOp .eql 35 (.slice (some ⟨b,0,none⟩) n c) (.slice none 0 0)).run Tryz.prog W= .ok (.bool false) W:=fun W=>by simp [binOp,run_equal_slice_nil W 35 90 (some ⟨b,0,none⟩) n c Tryz.underlying35]
 clear hA hl hi hz0 hz1 hz2;go_enter Tryz.func47,Tryz.ntmps47;go_wp2_with (at_builtin;refine wpList_append_own_at _ rfl _ _ 35 rfl w.heap.size 90 i0 (.agg jo) 9 144 Tryz.underlying35 HI.out HZ0.out HZ1.out HZ2.out rfl (by decide) _ 0 [] rfl HO.out ⟨b,0,none⟩ n c (aO zs) rfl HL.out HN.out (wR zs) (by unfold maxLen;omega) (by omega) (by simp) ?_);intro v' w' hown hg _ _;have HB2:=ae (dm HB.out HO.out (by simp) hg);obtain ⟨g,cap,rfl,_⟩:=dE hown h0;have HOW:=ae hown;clear hown hg;go_wp2_with fail;go_ret;exact ⟨g,cap,rfl,HOW.out,HB2.out⟩
structure yX (s:Zs):Prop where
 B:s.B=none∧s.b=0
 C:s.C=none∧s.c=0
 D:s.D=none∧s.d=0
def CzP (w:World) (z:Zn) (e:Ending) (w':World):Prop:=
 ∃g c,e= .returned (.agg (ay z ⟨some ⟨g,0,none⟩,c,none,0,none,0,none,0⟩))∧w'.ownsRow w.heap.size 3 1 (.slice (some ⟨g,0,none⟩) z.cal.az.length c) z.cal.az.length (z.cal.az.map I)∧Below w.heap.size w w'
theorem zG (z:Zn) (s:Zs) (w:World) (h:gU z) (hs:yX s) (hA:fG w w.heap.size s.A z.cal.az):Calls Tryz.prog 42 #[.agg (ay z s)] w (CzP w z):=by
 obtain ⟨n,hn⟩:∃n,z.cal.az.length=n:=⟨_,rfl⟩;have hn0:0<n:=by have:=h.cal.mo.1;omega
 have hn1:n≤16:=by have:=h.cal.mo.2;omega
 obtain ⟨b,off,hb0,hb,hc⟩:∃b off,s.A=some ⟨b,off,none⟩∧b<w.heap.size∧∀j,j<z.cal.az.length→w.cell? ⟨b,off+j,none⟩=some (I (z.cal.az[j]?.getD 0)):=by
  rcases hA with h1|h1
  ·omega
  ·exact h1
 have e0:ay z s= #[I z.cal.aY, .slice (some ⟨b,off,none⟩) n s.a,I z.cal.dP, .slice none 0 0,I z.start, .slice none 0 0,I z.hor, .slice none 0 0]:=by
  unfold ay;rw [hb0,hn,hs.B.1,hs.B.2,hs.C.1,hs.C.2,hs.D.1,hs.D.2,h.cal.ru,h.trans,h.aK];rfl
 have gq:Hid (∀w',Below w.heap.size w w'→Calls Tryz.prog 59 #[.slice (some ⟨b,off,none⟩) n s.a] w' (ClI w' z.cal.az n)):=ae fun w' hb2=>
  Ik b off s.a z.cal.az n w' (fun j hj=>(hb2.cell (p:=⟨b,off+j,none⟩) hb).trans (hc j hj)) (by have:=hb2.size;omega) hn hn0 (by omega)
 have G7:Hid (z.cal.rules= []∧z.trans= []∧z.aK= []):=ae ⟨h.cal.ru,h.trans,h.aK⟩;have HN:=ae hn;rw [e0];clear h hs hA hb0 hc e0 hn;have uJ:=ae (ah (ag w (.cells #[I z.cal.aY, .slice (some ⟨b,off,none⟩) n s.a,I z.cal.dP, .slice none 0 0,I z.start, .slice none 0 0,I z.hor, .slice none 0 0] 67)) (ag _ (.cells #[I 0, .slice none 0 0,I 0, .slice none 0 0,I 0, .slice none 0 0,I 0, .slice none 0 0] 67)));have HR0:=ae (heap_alloc2_old w (.cells #[I z.cal.aY, .slice (some ⟨b,off,none⟩) n s.a,I z.cal.dP, .slice none 0 0,I z.start, .slice none 0 0,I z.hor, .slice none 0 0] 67) (.cells #[I 0, .slice none 0 0,I 0, .slice none 0 0,I 0, .slice none 0 0,I 0, .slice none 0 0] 67));have HR1:=ae (heap_alloc2_new w (.cells #[I z.cal.aY, .slice (some ⟨b,off,none⟩) n s.a,I z.cal.dP, .slice none 0 0,I z.start, .slice none 0 0,I z.hor, .slice none 0 0] 67) (.cells #[I 0, .slice none 0 0,I 0, .slice none 0 0,I 0, .slice none 0 0,I 0, .slice none 0 0] 67));go_enter Tryz.func42,Tryz.ntmps42;go_wp2_with fail;refine (gq.out _ uJ.out).mono ?_;rintro e w1 ⟨g,c,rfl,hown,hb1⟩;have hsz:((w.alloc (.cells #[I z.cal.aY, .slice (some ⟨b,off,none⟩) n s.a,I z.cal.dP, .slice none 0 0,I z.start, .slice none 0 0,I z.hor, .slice none 0 0] 67)).alloc (.cells #[I 0, .slice none 0 0,I 0, .slice none 0 0,I 0, .slice none 0 0,I 0, .slice none 0 0] 67)).heap.size=w.heap.size+2:=by simp
 rw [hsz] at hb1 hown;have hr1:w1.heap[w.heap.size]? =some (.cells #[I z.cal.aY, .slice (some ⟨b,off,none⟩) n s.a,I z.cal.dP, .slice none 0 0,I z.start, .slice none 0 0,I z.hor, .slice none 0 0] 67 (0,0)):=(hb1.block _ (by omega)).trans HR0.out;have hr2:w1.heap[w.heap.size+1]? =some (.cells #[I 0, .slice none 0 0,I 0, .slice none 0 0,I 0, .slice none 0 0,I 0, .slice none 0 0] 67 (0,0)):=(hb1.block _ (by omega)).trans HR1.out;have hg:w.heap.size+2≤g:=by
  rcases hown.2 with ⟨h,_⟩|⟨g',c',cur,h,hg,_⟩
  ·cases h
  ·injection h with h _ _;injection h with h;injection h with h;omega
 have k1:∀i,w1.cell? ⟨w.heap.size,i,none⟩=(#[I z.cal.aY, .slice (some ⟨b,off,none⟩) n s.a,I z.cal.dP, .slice none 0 0,I z.start, .slice none 0 0,I z.hor, .slice none 0 0]:Array Value)[i]? :=fun i=>cell_of_row w1 _ i _ _ _ hr1;have f1:∀i,w1.frozen? ⟨w.heap.size,i,none⟩=false:=fun i=>frozen_of_row w1 _ i _ _ hr1;have hW2:(w1.setCell ⟨w.heap.size,1,none⟩ (.slice (some ⟨g,0,none⟩) n c)).heap[w.heap.size]? =some (.cells #[I z.cal.aY, .slice (some ⟨g,0,none⟩) n c,I z.cal.dP, .slice none 0 0,I z.start, .slice none 0 0,I z.hor, .slice none 0 0] 67 (0,0)):=by
  rw [heap_setCell_same w1 _ 1 _ _ _ hr1];rfl
 have k2:∀i,(w1.setCell ⟨w.heap.size,1,none⟩ (.slice (some ⟨g,0,none⟩) n c)).cell? ⟨w.heap.size,i,none⟩=(#[I z.cal.aY, .slice (some ⟨g,0,none⟩) n c,I z.cal.dP, .slice none 0 0,I z.start, .slice none 0 0,I z.hor, .slice none 0 0]:Array Value)[i]? :=fun i=>cell_of_row _ _ i _ _ _ hW2;have s3:(w1.setCell ⟨w.heap.size,1,none⟩ (.slice (some ⟨g,0,none⟩) n c)).setCell ⟨w.heap.size,3,none⟩ (.slice none 0 0)=(w1.setCell ⟨w.heap.size,1,none⟩ (.slice (some ⟨g,0,none⟩) n c)):=jc (v:= .slice none 0 0) (k2 3);have s5:(w1.setCell ⟨w.heap.size,1,none⟩ (.slice (some ⟨g,0,none⟩) n c)).setCell ⟨w.heap.size,5,none⟩ (.slice none 0 0)=(w1.setCell ⟨w.heap.size,1,none⟩ (.slice (some ⟨g,0,none⟩) n c)):=jc (v:= .slice none 0 0) (k2 5);have s7:(w1.setCell ⟨w.heap.size,1,none⟩ (.slice (some ⟨g,0,none⟩) n c)).setCell ⟨w.heap.size,7,none⟩ (.slice none 0 0)=(w1.setCell ⟨w.heap.size,1,none⟩ (.slice (some ⟨g,0,none⟩) n c)):=jc (v:= .slice none 0 0) (k2 7);have xZ:Hid (Row (w1.setCell ⟨w.heap.size,1,none⟩ (.slice (some ⟨g,0,none⟩) n c)) w.heap.size #[I z.cal.aY, .slice (some ⟨g,0,none⟩) n c,I z.cal.dP, .slice none 0 0,I z.start, .slice none 0 0,I z.hor, .slice none 0 0]):=ae ⟨(bT.1 hW2).1,k2⟩;have U7:Hid ((w1.setCell ⟨w.heap.size,1,none⟩ (.slice (some ⟨g,0,none⟩) n c)).heap[w.heap.size+1]? =some (.cells #[I 0, .slice none 0 0,I 0, .slice none 0 0,I 0, .slice none 0 0,I 0, .slice none 0 0] 67 (0,0))):=ae ((heap_setCell_other w1 _ _ _ (by show w.heap.size+1≠w.heap.size;omega)).trans hr2);have hb2:Below (w.heap.size+2) w1 w1:=Below.refl _ _;have HB2:Hid (Below w.heap.size w (w1.setCell ⟨w.heap.size,1,none⟩ (.slice (some ⟨g,0,none⟩) n c))):=ae ((uJ.out.trans (hb1.mono (by omega))).setCell (p:=⟨w.heap.size,1,none⟩) (Nat.le_refl _) _);have HOW:=ae (dW (u:= .slice (some ⟨g,0,none⟩) n c) (p:=⟨w.heap.size,1,none⟩) hown (by intro h;injection h with h;simp only at h;omega));have HG:=ae hg;clear hsz hb1 hown hr1 hr2 hg hW2 hb2 HR0 HR1 gq uJ k2;go_wp2_with (first
  |(go_at_call 60;refine (DN _ _).mono ?_;rintro e w2 ⟨rfl,rfl⟩)
  |(go_at_call 61;refine (BB _ _).mono ?_;rintro e w2 ⟨rfl,rfl⟩)
  |(go_at_call 62;refine (DR _ _).mono ?_;rintro e w2 ⟨rfl,rfl⟩)
  |(with_reducible refine dY 67 ?_;refine aV rfl _ _ rfl w.heap.size rfl #[I z.cal.aY, .slice (some ⟨g,0,none⟩) n c,I z.cal.dP, .slice none 0 0,I z.start, .slice none 0 0,I z.hor, .slice none 0 0] xZ.out _ Tryz.underlying67 rfl (by kernel_rfl) ?_)
  |(with_reducible refine bW 67 ?_;refine wpList_store_row rfl _ _ _ rfl (w.heap.size+1) #[I z.cal.aY, .slice (some ⟨g,0,none⟩) n c,I z.cal.dP, .slice none 0 0,I z.start, .slice none 0 0,I z.hor, .slice none 0 0] rfl rfl 67 #[I 0, .slice none 0 0,I 0, .slice none 0 0,I 0, .slice none 0 0,I 0, .slice none 0 0] U7.out (by kernel_rfl) rfl (by kernel_rfl) ?_))
 refine bodyPost_ret (v:= .agg #[I z.cal.aY, .slice (some ⟨g,0,none⟩) n c,I z.cal.dP, .slice none 0 0,I z.start, .slice none 0 0,I z.hor, .slice none 0 0]) (results_cell_row rfl _ _ (w.heap.size+1) _ #[I z.cal.aY, .slice (some ⟨g,0,none⟩) n c,I z.cal.dP, .slice none 0 0,I z.start, .slice none 0 0,I z.hor, .slice none 0 0] (0,0) _ rfl (setRow_heap _ _ _ _ _ _ U7.out) Tryz.underlying67 rfl (by kernel_rfl)) rfl ?_;refine ⟨g,c,?_,?_,below_setRow HB2.out (Nat.le_succ _) _⟩
 ·unfold ay;rw [HN.out,G7.out.1,G7.out.2.1,G7.out.2.2];rfl
 ·rw [HN.out];exact bD (dF HOW.out fun k h1 _=>setRow_other _ _ k _ (by omega)) (by omega)
end Go.Proofs.YtdibbemgpikgjaaGreatDoor
