/- The texts TbZ, TbE, TbW, TbX, TbM, TbY, Pa, in this order. -/
import Derived.Test.YtdibbemgpikgjaaGreatDoorY00
import Derived.Test.YtdibbemgpikgjaaGreatDoorY01
set_option maxRecDepth 10000
set_option maxHeartbeats 8000000
namespace Go.Proofs.YtdibbemgpikgjaaGreatDoor
open Go Go.RowKit
theorem Qm (z:Zn) (s:Zs) (w:World) (h:gU z):Calls Tryz.prog 86 #[.agg (ay z s)] w fun e w'=>(∃b:Nat,e= .returned (.tuple #[pt b, .bool true]))∧Below w.heap.size w w':=by
 have hy:z.aN.length=0:=by rw [h.aN];rfl
 have e0:ay z s= #[I z.cal.aX, .slice s.A z.cal.az.length s.a,I z.cal.dM, .slice s.B z.cal.rules.length s.b,I z.start, .slice s.C z.trans.length s.c,I z.hor, .slice s.D 0 s.d]:=by rw [←hy];rfl
 rw [e0];clear h hy e0;go_enter Tryz.func86,Tryz.ntmps86;go_wp2_with fail;go_ret2;exact ⟨⟨_,rfl⟩,ah (ag _ _) (ag _ _)⟩
theorem jM (n l:Int) (w:World) (hl:0≤l∧l≤4503599627370496) (h1: -l≤n) (h2:n≤l):Calls Tryz.prog 85 #[I n,I l] w fun e w'=>e= .returned (.bool true)∧w'=w:=by
 have h:=JS n l w hl;have e:(decide (-l≤n)&&decide (n≤l))=true:=by rw [decide_eq_true h1,decide_eq_true h2];rfl
 rw [e] at h;exact h
theorem jJ {P:Program} {fn:Func} {p q:Tmp} {t1 t2:TypeId} (h:fn.results= #[.cell p t1, .cell q t2]) (tmps:Array Value) (w:World) (a b:Addr) (u v:Value)
  (hp:tmps.getD p undef= .pointer (some a)) (hu:(loadVar t1 a).run P w= .ok u w) (hq:tmps.getD q undef= .pointer (some b)) (hv:(loadVar t2 b).run P w= .ok v w):
  (results fn tmps).run P w= .ok (.tuple #[u,v]) w:=by
 have hp':tmps[p]?.getD undef= .pointer (some a):=by simpa using hp
 have hq':tmps[q]?.getD undef= .pointer (some b):=by simpa using hq
 simp [results,h,hp',hq',asAddr,hu,hv]
theorem kM (W:World) (a:Addr) (b:Nat) (h:W.cell? a=some (pt b)):(loadVar 145 a).run Tryz.prog W= .ok (pt b) W:=by
 simp [go_sem,h]
theorem iU (W:World) (a:Addr) (b:Bool) (h:W.cell? a=some (.bool b)):(loadVar 4 a).run Tryz.prog W= .ok (.bool b) W:=by
 simp [go_sem,h]
structure ZO (w:World) (cs:Array Value) (W:World):Prop where
 row:Row W w.heap.size cs
 r1:W.heap[w.heap.size+1]? =some (.cells #[.pointer none] 145 (0,0))
 r2:W.heap[w.heap.size+2]? =some (.cells #[.bool false] 4 (0,0))
 up:Below w.heap.size w W
theorem ZO.below {w W W':World} {cs:Array Value} (h:ZO w cs W) (hb:Below W.heap.size W W'):ZO w cs W':=
 ⟨h.row.keep hb,(hb.block _ (bT.1 h.r1).1).trans h.r1,(hb.block _ (bT.1 h.r2).1).trans h.r2,ah h.up hb⟩
theorem JQ (w:World) (cs:Array Value):ZO w cs (((w.alloc (.cells cs 67)).alloc (.cells #[.pointer none] 145)).alloc (.cells #[.bool false] 4)):=by
 have b0:=ag w (.cells cs 67);have r0:=Row.new w cs 67;obtain ⟨W1,hW1⟩:∃W,w.alloc (.cells cs 67)=W:=⟨_,rfl⟩;have hs1:W1.heap.size=w.heap.size+1:=by rw [←hW1];simp
 rw [hW1] at b0 r0 ⊢;have b1:=ag W1 (.cells #[.pointer none] 145);have h1:=heap_alloc_last W1 (.cells #[.pointer none] 145);obtain ⟨W2,hW2⟩:∃W,W1.alloc (.cells #[.pointer none] 145)=W:=⟨_,rfl⟩;have hs2:W2.heap.size=w.heap.size+2:=by rw [←hW2];simp [hs1]
 rw [hW2] at b1 h1 ⊢;rw [hs1] at h1;have b2:=ag W2 (.cells #[.bool false] 4);have h2:=heap_alloc_last W2 (.cells #[.bool false] 4);rw [hs2] at h2;exact ⟨(r0.keep b1).keep b2,(b2.block _ (by omega)).trans h1,h2,ah (ah b0 b1) b2⟩
theorem ND (z:Zn) (s:Zs) (w:World) (h:gU z) (hA:fJ w w.heap.size s.A z.cal.az):Calls Tryz.prog 63 #[.agg (ay z s)] w fun e w'=>(∃b:Nat,e= .returned (.tuple #[pt b, .bool true]))∧Below w.heap.size w w':=by
 have hT:z.trans.length=0:=by rw [h.trans];rfl
 have hy:z.aN.length=0:=by rw [h.aN];rfl
 have hr:z.cal.rules.length=0:=by rw [h.cal.ru];rfl
 have e0:ay z s= #[I z.cal.aX, .slice s.A z.cal.az.length s.a,I z.cal.dM, .slice s.B 0 s.b,I z.start, .slice s.C 0 s.c,I z.hor, .slice s.D 0 s.d]:=by unfold ay;rw [hy,hT,hr]
 have HV:Hid (∀w',Below w.heap.size w w'→Calls Tryz.prog 84 #[.agg #[I z.cal.aX, .slice s.A z.cal.az.length s.a,I z.cal.dM, .slice s.B 0 s.b]] w' (Gives (.bool true) w')):=ae fun w' hb=>by
  have h1:=zG z.cal s.A s.a s.B s.b w' ((hA.keep hb).more hb.size) h.cal;have e1:aG z.cal s.A s.a s.B s.b= #[I z.cal.aX, .slice s.A z.cal.az.length s.a,I z.cal.dM, .slice s.B 0 s.b]:=by unfold aG;rw [hr]
  rwa [e1] at h1
 have HK:Hid (∀w',Calls Tryz.prog 86 #[.agg #[I z.cal.aX, .slice s.A z.cal.az.length s.a,I z.cal.dM, .slice s.B 0 s.b,I z.start, .slice s.C 0 s.c,I z.hor, .slice s.D 0 s.d]] w' fun e w2=>(∃b:Nat,e= .returned (.tuple #[pt b, .bool true]))∧Below w'.heap.size w' w2):=ae fun w'=>by
  have:=Qm z s w' h
  rwa [e0] at this
 have HW1:Hid (∀w,Calls Tryz.prog 85 #[I z.start,I 1080] w fun e w'=>e= .returned (.bool true)∧w'=w):=ae fun w=>jM z.start 1080 w (by omega) h.start.1 h.start.2;have HW2:Hid (∀w,Calls Tryz.prog 85 #[I z.hor,I 2251799813685248] w fun e w'=>e= .returned (.bool true)∧w'=w):=ae fun w=>jM z.hor 2251799813685248 w (by omega) h.hor.1 h.hor.2;have HZ0:=ae (JQ w #[I z.cal.aX, .slice s.A z.cal.az.length s.a,I z.cal.dM, .slice s.B 0 s.b,I z.start, .slice s.C 0 s.c,I z.hor, .slice s.D 0 s.d]);rw [e0];clear h hy hT hr e0 hA;go_enter Tryz.func63,Tryz.ntmps63;go_wp2_with fail;refine (HV.out _ HZ0.out.up).mono ?_;rintro e w1 ⟨rfl,hb1⟩;have HZ1:=ae (HZ0.out.below hb1);have k1:=HZ1.out.row.2;clear hb1 HZ0 HV;go_wp2_with fail;refine (HW1.out _).mono ?_;rintro e w2 ⟨rfl,rfl⟩;go_wp2_with fail;refine (HW2.out _).mono ?_;rintro e w3 ⟨rfl,rfl⟩;go_wp2_with fail
 go_loopw [37] (fun i wr=>i=I 0∧wr=w3) (fun _ _=>0)
 case atStart=>exact ⟨rfl,rfl⟩
 case round=>
  obtain ⟨rfl,rfl⟩:=hrel;go_wp2_with fail
  go_loopw [90] (fun i wr2=>i=I 0∧wr2=wr) (fun _ _=>0)
  case atStart=>exact ⟨rfl,rfl⟩
  case round=>
   obtain ⟨rfl,rfl⟩:=hrel;go_wp2_with fail;refine (HK.out _).mono ?_;rintro e w5 ⟨⟨b,rfl⟩,hb5⟩;have Pn:=ae (HZ1.out.below hb5);have k5:=Pn.out.row.2;have hlt5:w.heap.size+1+1<w5.heap.size:=(bT.1 Pn.out.r2).1;have hlt3:w.heap.size<w5.heap.size:=by omega
   have hlt4:w.heap.size+1<w5.heap.size:=by omega
   have c1:w5.cell? ⟨w.heap.size+1,0,none⟩=some (.pointer none):=cell_of_row w5 _ 0 _ _ _ Pn.out.r1;have c2:w5.cell? ⟨w.heap.size+1+1,0,none⟩=some (.bool false):=cell_of_row w5 _ 0 _ _ _ Pn.out.r2;have f1:w5.frozen? ⟨w.heap.size+1,0,none⟩=false:=frozen_of_row w5 _ 0 _ _ Pn.out.r1;have f2:w5.frozen? ⟨w.heap.size+1+1,0,none⟩=false:=frozen_of_row w5 _ 0 _ _ Pn.out.r2;clear hb5 HZ1 k1 HK;go_wp2_with fail;refine bodyPost_ret (v:= .tuple #[pt b, .bool true]) (jJ rfl _ _ ⟨w.heap.size+1,0,none⟩ ⟨w.heap.size+1+1,0,none⟩ (pt b) (.bool true) rfl (kM _ _ _ ?_) rfl (iU _ _ _ ?_)) rfl ⟨⟨b,rfl⟩,?_⟩
   ·go_simp
   ·go_simp
   ·exact ah ((Pn.out.up.setCell (p:=⟨w.heap.size+1,0,none⟩) (Nat.le_succ _) _).setCell (p:=⟨w.heap.size+1+1,0,none⟩) (by show w.heap.size≤w.heap.size+1+1;omega) _) (ah (ag _ _) (ag _ _))
theorem uA (z:Zn) (s:Zs) (w:World) (h:gU z) (hA:fJ w w.heap.size s.A z.cal.az):Calls Tryz.prog 43 #[.agg (ay z s)] w (Gives (I 0) w):=by
 have hT:z.trans.length=0:=by rw [h.trans];rfl
 have HO:Hid (∀w',Below w.heap.size w w'→Calls Tryz.prog 63 #[.agg (ay z s)] w' fun e w2=>(∃b:Nat,e= .returned (.tuple #[pt b, .bool true]))∧Below w'.heap.size w' w2):=ae fun w' hb=>ND z s w' h ((hA.keep hb).more hb.size);have HR0:=ae (Row.new w (ay z s) 67);have HB0:=ae (ag w (.cells (ay z s) 67));have e0:ay z s= #[I z.cal.aX, .slice s.A z.cal.az.length s.a,I z.cal.dM, .slice s.B z.cal.rules.length s.b,I z.start, .slice s.C 0 s.c,I z.hor, .slice s.D z.aN.length s.d]:=by unfold ay;rw [hT]
 rw [e0] at HO HR0 HB0 ⊢;clear h hT e0 hA;go_enter Tryz.func43,Tryz.ntmps43;go_wp2_with fail;refine (HO.out _ HB0.out).mono ?_;rintro e w1 ⟨⟨b,rfl⟩,hb1⟩;have HB1:=ae (ah HB0.out hb1);clear hb1;go_wp2_with fail;go_ret;exact ⟨rfl,HB1.out⟩
structure Ze where
 name:ByteArray
 z:Zn
structure dB where
 e:Ze
 s:Zs
def dB.cells (x:dB):Array Value:= #[.string x.e.name,I x.e.z.cal.aX, .slice x.s.A x.e.z.cal.az.length x.s.a,I x.e.z.cal.dM, .slice x.s.B x.e.z.cal.rules.length x.s.b,I x.e.z.start, .slice x.s.C x.e.z.trans.length x.s.c,I x.e.z.hor, .slice x.s.D x.e.z.aN.length x.s.d]
structure Tb where
 aP:Int
 version:Int
 aC:Int
 prev:List UInt8
 bn:List UInt8
 aK:List Ze
def fF (t:Tb) (vz:Value):List Value:= [I t.aP,I t.version,I t.aC,vz]++(aj t.prev++aj t.bn)
def ai (t:Tb) (vz:Value):Array Value:=(fF t vz).toArray
section
variable (t:Tb) (vz:Value)
theorem jy:(ai t vz)[0]? =some (I t.aP):=rfl
theorem jA:(ai t vz)[1]? =some (I t.version):=rfl
theorem jQ:(ai t vz)[2]? =some (I t.aC):=rfl
theorem bD:(ai t vz)[3]? =some vz:=rfl
theorem bF (h:t.prev.length=32) (h2:t.bn.length=32):(ai t vz).size=68:=by simp [ai,fF,aj,h,h2]
theorem bU (h:t.prev.length=32) (h2:t.bn.length=32):(Tryz.prog.info? 37).map (·.size)=some (ai t vz).size:=by rw [bF t vz h h2];kernel_rfl
theorem mY {W:World} {b:Nat} (hr:Row W b (ai t vz)):W.rangeAt b 4 (aj t.prev):=fun j v hv=>by
 rw [hr.2 (4+j)];unfold ai fF;rw [List.getElem?_toArray,List.getElem?_append_right (by simp)];have hj:=(eG.1 hv).1;rw [show 4+j - [I t.aP,I t.version,I t.aC,vz].length=j by simp,List.getElem?_append_left hj];exact hv
theorem yD {W:World} {b:Nat} (hr:Row W b (ai t vz)) (hp:t.prev.length=32):W.rangeAt b 36 (aj t.bn):=fun j v hv=>by
 rw [hr.2 (36+j)];unfold ai fF;have hl:(aj t.prev).length=32:=by simp [aj,hp]
 rw [List.getElem?_toArray,List.getElem?_append_right (by simp;omega),List.getElem?_append_right (by simp [hl];omega)];rw [show 36+j - [I t.aP,I t.version,I t.aC,vz].length - (aj t.prev).length=j by simp [hl];omega];exact hv
end
def Ew (w:World) (B:Nat) (A:Option Addr) (zs:List dB):Prop:=
 zs.length=0∨∃b,A=some ⟨b,0,none⟩∧b<B∧∀k x,zs[k]? =some x→w.rangeAt b (k*9) x.cells.toList∧fJ w B x.s.A x.e.z.cal.az
theorem Ew.keep {w w':World} {B:Nat} {A:Option Addr} {zs:List dB} (h:Ew w B A zs) (hb:Below B w w'):Ew w' B A zs:=by
 rcases h with h|⟨b,h1,h2,h3⟩
 ·exact .inl h
 ·exact .inr ⟨b,h1,h2,fun k x hx=>⟨aQ (h3 k x hx).1 hb h2,(h3 k x hx).2.keep hb⟩⟩
section
variable {P:Program} {ops:Array Oper} {Q:Exit→Act→World→Prop} {a:Act} {w:World} {rest:List Oper} {o:Oper}
theorem bP (hw:Region.wanted o (yielded ops a.tmps)=true) (ty:TypeId) (x:Operand) (ho:o.op= .load ty x) (g off:Nat) (hx:a.eval x= .pointer (some ⟨g,off,none⟩)) (cs:List Value) (hr:w.rangeAt g off cs)
  (d:TypeDesc) (hu:P.underlying ty=some d) (hd:d.isRow=true) (hi:(P.info? ty).map (·.size)=some cs.length)
  (h:wpList P ops Q rest (a.put o.dst (.agg cs.toArray)) w):wpList P ops Q (o::rest) a w:=by
 unfold wpList;rw [if_pos hw];exact .inl (wp_load_mid ty x ho g off hx cs d hr hu hd hi h)
end
structure kJ (t:Tb):Prop where
 aP:0≤t.aP∧t.aP<16
 version:1≤t.version∧t.version≤64
 aC:0≤t.aC∧t.aC<t.version
 prev:t.prev.length=32
 bn:t.bn.length=32
 first:t.version=1→t.prev=aU
 num:t.aK.length≤128
 flat:∀e∈t.aK,gU e.z
 short:∀e∈t.aK,e.name.size≤32
def fA (w:World) (g:Nat) (v:Value) (bs:List UInt8):Prop:=
 w.heap[g]? =some (.cells #[v] 79 (0,0))∧w.ownsRow (g+1) 5 1 v bs.length (bs.map Extern.Stop.cell)
theorem Qo {w w1:World} {g:Nat} {v v':Value} {bs:List UInt8} {c:UInt8} {o:Obj} (h:fA w g v bs) (hg:g<w.heap.size)
  (hown:w1.ownsRow (g+1) 5 1 v' (bs.length+1) (bs.map Extern.Stop.cell++ [Extern.Stop.cell c])) (hgrow:(w.alloc o).grownBy w1 v.ownBlock)
  (hat:v'.ownBlock=v.ownBlock∨v'.ownBlock=some (w.heap.size+1)):
  w1.heap[g]? =some (.cells #[v] 79 (0,0))∧fA (w1.setCell ⟨g,0,none⟩ v') g v' (bs++ [c])∧gX g v w v' (w1.setCell ⟨g,0,none⟩ v'):=by
 have hne:some g≠v.ownBlock:=eU h.2 g (Nat.lt_succ_self g);have hg1:w1.heap[g]? =some (.cells #[v] 79 (0,0)):=by
  rw [hgrow.block g (by simp;omega) hne,Below.heap_alloc w o g hg];exact h.1
 refine ⟨hg1,⟨?_,?_⟩,?_⟩
 ·rw [heap_setCell_same w1 g 0 _ _ v' hg1];rfl
 ·have:=dW (u:=v') (p:=⟨g,0,none⟩) hown (eU hown g (Nat.lt_succ_self g));simpa using this
 ·refine ⟨hgrow.os,hgrow.tape,hgrow.output,?_,fun k hk hkg hkv=>?_,?_⟩
  ·have:=hgrow.size;simp [World.setCell] at this ⊢;omega
  ·rw [heap_setCell_other w1 _ k v' hkg,hgrow.block k (by simp;omega) hkv,Below.heap_alloc w o k hk]
  ·rcases hat with e|e
   ·exact .inl e
   ·exact .inr ⟨_,e,by omega⟩
def fE (w:World) (g:Nat) (v:Value) (bs:List UInt8) (e:Ending) (w':World):Prop:=
 e= .returned (.tuple #[])∧∃v',fA w' g v' bs∧gX g v w v' w'
def TwRel (w:World) (g:Nat) (v:Value) (bs:List UInt8) (n:Int) (size:Nat) (x i:Value) (wr:World):Prop:=
 ∃k:Nat,k≤size∧i= .int .i64 k∧x= .int .i64 (jP n k)∧∃v',fA wr g v' (bs++le n k)∧gX g v w v' wr
theorem bH (w:World) (g:Nat) (p:Addr) (v:Value) (bs:List UInt8) (n:Int) (size:Nat) (hn0: -9223372036854775808≤n) (hn1:n≤9223372036854775807) (hs:size≤8) (hl:bs.length≤1099511627776) (hg:g<w.heap.size) (hst:fA w g v bs) (hp:w.cell? p=some (I n)):
  Calls Tryz.prog 170 #[pt g, .pointer (some p),I size] w (fE w g v (bs++le n size)):=by
 obtain ⟨i0,hi,hz0,hz1,hz2⟩:=info_parts kF;have HST:=ae hst;clear hst;go_enter Tryz.func170,Tryz.ntmps170
 go_wp2
 go_loopw [6,11] (fun x i wr=>TwRel w g v bs n size x i wr) (fun _ i _=>size - (intOf i).toNat)
 case atStart=>exact ⟨0,Nat.zero_le _,rfl,rfl,v,by simpa [le] using HST.out,gX.refl _ _ _⟩
 case round=>
  obtain ⟨k,hk,rfl,rfl,v1,hw1,hk1⟩:=hrel;by_cases hlt:k<size
  ·obtain ⟨x,hx⟩:∃x,jP n k=x:=⟨_,rfl⟩;have hbd:=MN n k hn0 hn1;rw [hx] at hbd ⊢;have HX:=ae hx;obtain ⟨B,hB⟩:∃B,bs++le n k=B:=⟨_,rfl⟩;have hlen:B.length≤1099511627784:=by rw [←hB,aZ,aF];omega
   rw [hB] at hw1;have HBB:=ae hB;have hc:=cell_of_row wr g 0 _ _ _ hw1.1;have hgr:g<wr.heap.size:=dP hg hk1.size;have HW:=ae hw1;have HK:=ae hk1;have hown:=ae hw1.2;clear hx hw1 hk1 hB;go_wp2_with (at_builtin;refine wpList_append_own_at _ rfl _ _ 32 rfl (g+1) 5 i0 (.int .u8 0) 1 1 Tryz.underlying32 hi hz0 hz1 hz2 rfl (by decide) _ _ _ rfl (hown.out.alloc _) ⟨wr.heap.size,0,none⟩ 1 1 [Extern.Stop.cell (byteOf x)] rfl rfl ?c1 ?c2 ?c3 ?c4 ?c5 ?_)
   case c1=>
    rw [dF];exact cell_one_new _ _ _
   case c2=>intro u hu;simp at hu;subst hu;rfl
   case c3=>unfold maxLen;omega
   case c4=>omega
   case c5=>simp;omega
   intro v' w1 hown' hgrow _ hat;obtain ⟨hg1,hst1,hkp1⟩:=Qo HW.out hgr hown' hgrow hat;obtain ⟨g',cap',rfl,_⟩:=dE hown' (Nat.succ_pos _);have hc1:=cell_of_row w1 g 0 _ _ _ hg1;have hf1:=frozen_of_row w1 g 0 _ _ hg1;have HST1:=ae hst1;have HKP1:=ae hkp1;clear hown' hgrow hat hg1 hst1 hkp1 hc
   go_wp2
   go_roundw
   case rel=>exact ⟨k+1,by omega,by go_num,by unfold jP;rw [HX.out],_,by rw [Gl,←List.append_assoc,HBB.out,HX.out];exact HST1.out,HK.out.trans HKP1.out⟩
   case measure=>simp [intOf];omega
  ·have hke:k=size:=by omega
   have AU:=ae hke;have HW:=ae hw1;have HK:=ae hk1;clear hke hw1 hk1
   go_wp2
   go_end0
   exact ⟨rfl,v1,by rw [←AU.out];exact HW.out,HK.out⟩
theorem fA.lt {w:World} {g:Nat} {v:Value} {bs:List UInt8} (h:fA w g v bs):g<w.heap.size:=(bT.1 h.1).1
theorem fA.grow {w w':World} {g:Nat} {v:Value} {bs:List UInt8} (h:fA w g v bs) (hb:Below w.heap.size w w'):fA w' g v bs∧gX g v w v w':=
 ⟨⟨(hb.block g h.lt).trans h.1,dH h.2 fun k _ hk=>hb.block k hk⟩,⟨hb.os,hb.tape,hb.output,hb.size,fun k hk _ _=>hb.block k hk, .inl rfl⟩⟩
theorem fA.far {w w':World} {g:Nat} {v v':Value} {bs:List UInt8} (_h:fA w g v bs) (hk:gX g v w v' w') (b:Nat) (hb:b<w.heap.size) (hg:b≠g) (ho:some b≠v.ownBlock):w'.heap[b]? =w.heap[b]? :=hk.block b hb hg ho
theorem fA.new_ne {w:World} {g:Nat} {v:Value} {bs:List UInt8} (h:fA w g v bs):w.heap.size≠g∧some w.heap.size≠v.ownBlock:=
 ⟨by have:=h.lt;omega,fun e=>by have:=MB h.2 _ e.symm;omega⟩
theorem fP (w:World) (g:Nat) (v:Value) (bs:List UInt8) (n:Int) (size:Nat) (hn0: -9223372036854775808≤n) (hn1:n≤9223372036854775807) (hs:size≤8) (hl:bs.length≤1099511627776) (hst:fA w g v bs):
  Calls Tryz.prog 169 #[pt g,I n,I size] w fun e w'=>e= .returned (I n)∧∃v',fA w' g v' (bs++le n size)∧gX g v w v' w':=by
 obtain ⟨h1,h2⟩:=hst.grow (ag w (.cells #[I n] 3));have hne:=hst.new_ne;have HC:=ae (bH (w.alloc (.cells #[I n] 3)) g ⟨w.heap.size,0,none⟩ v bs n size hn0 hn1 hs hl h1.lt h1 ((Row.new w #[I n] 3).2 0));have HB:=ae (heap_alloc_last w (.cells #[I n] 3));have H1:=ae h1;have H2:=ae h2;have NK:=ae hne;clear h1 h2 hst hne;go_enter Tryz.func169,Tryz.ntmps169;go_wp2_with fail;refine HC.out.mono ?_;rintro e w1 ⟨rfl,v1,hs1,hk1⟩;have k1:w1.cell? ⟨w.heap.size,0,none⟩=some (I n):=cell_of_row w1 _ 0 _ _ _ ((H1.out.far hk1 w.heap.size (by simp) NK.out.1 NK.out.2).trans HB.out);have HS:=ae hs1;have HK:=ae (H2.out.trans hk1);clear hs1 hk1 HC;go_wp2_with fail;go_ret;exact ⟨rfl,v1,HS.out,HK.out⟩
theorem JA {w W w1:World} {g m:Nat} {v v':Value} {bs xs:List UInt8} (h:fA w g v bs) (hW:W.heap=w.heap) (h1:W.os=w.os) (h2:W.tape=w.tape) (h3:W.output=w.output) (hm:m=bs.length+xs.length)
  (hown:w1.ownsRow (g+1) 5 1 v' m (bs.map Extern.Stop.cell++xs.map Extern.Stop.cell)) (hgrow:W.grownBy w1 v.ownBlock) (hat:v'.ownBlock=v.ownBlock∨v'.ownBlock=some w.heap.size):
  w1.heap[g]? =some (.cells #[v] 79 (0,0))∧fA (w1.setCell ⟨g,0,none⟩ v') g v' (bs++xs)∧gX g v w v' (w1.setCell ⟨g,0,none⟩ v'):=by
 subst hm;have hg:=h.lt;have hne:some g≠v.ownBlock:=eU h.2 g (Nat.lt_succ_self g);have hg1:w1.heap[g]? =some (.cells #[v] 79 (0,0)):=by
  rw [hgrow.block g (by rw [hW];exact hg) hne,hW];exact h.1
 refine ⟨hg1,⟨?_,?_⟩,?_⟩
 ·rw [heap_setCell_same w1 g 0 _ _ _ hg1];rfl
 ·have:=dW (u:=v') (p:=⟨g,0,none⟩) hown (eU hown g (Nat.lt_succ_self g));simpa using this
 ·refine ⟨hgrow.os.trans h1,hgrow.tape.trans h2,hgrow.output.trans h3,?_,fun k hk hkg hkv=>?_,?_⟩
  ·have:=hgrow.size;rw [hW] at this;simp [World.setCell];omega
  ·rw [heap_setCell_other w1 _ k _ hkg,hgrow.block k (by rw [hW];exact hk) hkv,hW]
  ·exact hat.elim .inl fun e=> .inr ⟨_,e,Nat.le_refl _⟩
theorem qg (w:World) (g:Nat) (p:Addr) (v:Value) (bs:List UInt8) (n:Int) (hn0: -9223372036854775808≤n) (hn1:n≤9223372036854775807) (hl:bs.length≤1099511627776) (hst:fA w g v bs) (hp:w.cell? p=some (I n)):
  Calls Tryz.prog 171 #[pt g, .pointer (some p)] w (fE w g v (bs++le n 2)):=by
 have HC:=ae (bH w g p v bs n 2 hn0 hn1 (by omega) hl hst.lt hst hp);clear hst hp;go_enter Tryz.func171,Tryz.ntmps171;go_wp2_with fail;refine HC.out.mono ?_;rintro e w1 ⟨rfl,h⟩;have H:=ae h;clear h HC;go_wp2_with fail
 go_end0
 exact ⟨rfl,H.out⟩
theorem zk (w:World) (g db off:Nat) (v:Value) (bs ds:List UInt8) (hl:bs.length≤1000000000000) (hd:w.rangeAt db off (aj ds)) (h32:ds.length=32) (hst:fA w g v bs):
  Calls Tryz.prog 167 #[pt g, .pointer (some ⟨db,off,none⟩)] w (fE w g v (bs++ds)):=by
 have hc0:w.cell? ⟨g,0,none⟩=some v:=cell_of_row w g 0 _ _ _ hst.1;have hgl:g<w.heap.size:=hst.lt;have HI:=ae hst;obtain ⟨i0,hi,hz0,hz1,hz2⟩:=info_parts kF;have hnews:∀j u,(aj ds)[j]? =some u→w.drew.cell? ((⟨db,off,none⟩:Addr).add j)=some u:=fun j u hu=>by
  rw [Addr.add_mid];exact hd j u hu
 have hmx:bs.length+32≤maxLen:=by unfold maxLen;omega
 have hby:(bs.length+32)*1≤140737488355328:=by omega
 clear hst hd;go_enter Tryz.func167,Tryz.ntmps167;go_wp2_with fail
 go_region_law ((refine step_append_lies _ (by rfl) _ _ _ (by rfl) (g+1) 5 i0 _ 1 1 Tryz.underlying32 hi hz0 hz1 hz2 rfl (by omega) v bs.length (bs.map Extern.Stop.cell) (by rfl) (HI.out.2.drew) ⟨db,off,none⟩ 32 32 (aj ds) (by rfl) (by simp [aj,h32]) hnews (ni ds) (by omega) hmx hby (Nat.succ_le_of_lt hgl) w.heap.size rfl ?_;intro gg cap w1 hown1 hgrow hat hlt;have hS:=JA (w:=w) (W:=w.drew) (xs:=ds) (m:=bs.length+32) HI.out rfl rfl rfl rfl (by rw [h32]) hown1 hgrow (hat.elim (fun e=> .inl e.symm) (fun e=> .inr (by rw [←e];rfl)));have hc2:w1.cell? ⟨g,0,none⟩=some v:=cell_of_row w1 g 0 _ _ _ hS.1;have hf2:=frozen_of_row w1 g 0 _ _ hS.1;have rW:=ae hS;clear hS hown1 hgrow hat hlt))
 all_goals
  go_wp2
  go_end0
  exact ⟨rfl,_,rW.out.2.1,rW.out.2.2⟩
theorem Fb (w:World) (g:Nat) (p:Addr) (v:Value) (bs:List UInt8) (s:ByteArray) (hs:s.size≤1000000) (hl:bs.length≤1000000000) (hst:fA w g v bs) (hp:w.cell? p=some (.string s)) (hpg:p.block≠g) (hpv:some p.block≠v.ownBlock) (hpl:p.block<w.heap.size):
  Calls Tryz.prog 172 #[pt g, .pointer (some p)] w (fE w g v (bs++(le s.size 1++s.data.toList))):=by
 have HC:=ae (fP w g v bs s.size 1 (by omega) (by omega) (by omega) (by omega) hst);have HST:=ae hst;have HPK:=ae (show p.block≠g∧some p.block≠v.ownBlock from ⟨hpg,hpv⟩);clear hst hpg hpv;go_enter Tryz.func172,Tryz.ntmps172;go_wp2_with fail;refine HC.out.mono ?_;rintro e w1 ⟨rfl,v1,hw1,hk1⟩;have hlen:(bs++le (s.size:Int) 1).length≤1000000008:=by rw [aZ,aF];omega
 have hpos:0<(bs++le (s.size:Int) 1).length:=by rw [aZ,aF];omega
 obtain ⟨B,hB⟩:∃B,bs++le (s.size:Int) 1=B:=⟨_,rfl⟩;rw [hB] at hw1 hlen hpos;have hp1:w1.cell? p=some (.string s):=(World.cell?_of_block (hk1.block p.block hpl HPK.out.1 HPK.out.2)).trans hp;have HB:=ae hB;have HW:=ae hw1;have HK:=ae hk1;have hc1:=cell_of_row w1 g 0 _ _ _ hw1.1;have hgl:g<w1.heap.size:=hw1.lt;clear hB hw1 hk1 HC hp;go_wp2_with fail
 go_region_law ((refine Gx (by rfl) _ _ (by rfl) (g+1) v1 B.length (B.map Extern.Stop.cell) (by rfl) (HW.out.2.drew) s (by rfl) (by omega) (Nat.succ_le_of_lt hgl) (by omega) ?_;intro gg cap w2 hown2 hgrow hat;have hS:=JA (w:=w1) (W:=w1.drew) (xs:=s.data.toList) (m:=B.length+s.size) HW.out rfl rfl rfl rfl (by rw [Array.length_toList];rfl) hown2 hgrow hat;have hc2:w2.cell? ⟨g,0,none⟩=some v1:=cell_of_row w2 g 0 _ _ _ hS.1;have hf2:=frozen_of_row w2 g 0 _ _ hS.1;have rW:=ae hS;clear hS hown2 hgrow hat))
 all_goals
  go_wp2
  go_end0
  exact ⟨rfl,_,by rw [←List.append_assoc,HB.out];exact rW.out.2.1,HK.out.trans rW.out.2.2⟩
theorem mF (n:Nat) (a:Addr) (w:World):(method (n+1) 77 (.pointer (some a)) "kalends/table.number").run Tryz.prog w= .ok (170, .pointer (some a)) w:=by kernel_rfl
theorem mO (n:Nat) (a:Addr) (w:World):(nilAhead (n+1) 77 (.pointer (some a)) "kalends/table.number").run Tryz.prog w= .ok (some false) w:=by kernel_rfl
theorem kQ (n:Nat) (a:Addr) (w:World):(method (n+1) 134 (.pointer (some a)) "kalends/table.number").run Tryz.prog w= .ok (176, .pointer (some a)) w:=by kernel_rfl
theorem kU (n:Nat) (a:Addr) (w:World):(nilAhead (n+1) 134 (.pointer (some a)) "kalends/table.number").run Tryz.prog w= .ok (some false) w:=by kernel_rfl
theorem mG (n:Nat) (a:Addr) (w:World):(method (n+1) 77 (.pointer (some a)) "kalends/table.offset").run Tryz.prog w= .ok (171, .pointer (some a)) w:=by kernel_rfl
theorem mP (n:Nat) (a:Addr) (w:World):(nilAhead (n+1) 77 (.pointer (some a)) "kalends/table.offset").run Tryz.prog w= .ok (some false) w:=by kernel_rfl
theorem kR (n:Nat) (a:Addr) (w:World):(method (n+1) 134 (.pointer (some a)) "kalends/table.offset").run Tryz.prog w= .ok (177, .pointer (some a)) w:=by kernel_rfl
theorem kV (n:Nat) (a:Addr) (w:World):(nilAhead (n+1) 134 (.pointer (some a)) "kalends/table.offset").run Tryz.prog w= .ok (some false) w:=by kernel_rfl
theorem qN (n:Nat) (a:Addr) (w:World):(method (n+1) 77 (.pointer (some a)) "kalends/table.text").run Tryz.prog w= .ok (172, .pointer (some a)) w:=by kernel_rfl
theorem qO (n:Nat) (a:Addr) (w:World):(nilAhead (n+1) 77 (.pointer (some a)) "kalends/table.text").run Tryz.prog w= .ok (some false) w:=by kernel_rfl
theorem oU (n:Nat) (a:Addr) (w:World):(method (n+1) 134 (.pointer (some a)) "kalends/table.text").run Tryz.prog w= .ok (178, .pointer (some a)) w:=by kernel_rfl
theorem oV (n:Nat) (a:Addr) (w:World):(nilAhead (n+1) 134 (.pointer (some a)) "kalends/table.text").run Tryz.prog w= .ok (some false) w:=by kernel_rfl
theorem mr (n:Nat) (a:Addr) (w:World):(method (n+1) 77 (.pointer (some a)) "kalends/table.digest").run Tryz.prog w= .ok (167, .pointer (some a)) w:=by kernel_rfl
theorem mJ (n:Nat) (a:Addr) (w:World):(nilAhead (n+1) 77 (.pointer (some a)) "kalends/table.digest").run Tryz.prog w= .ok (some false) w:=by kernel_rfl
theorem kN (n:Nat) (a:Addr) (w:World):(method (n+1) 134 (.pointer (some a)) "kalends/table.digest").run Tryz.prog w= .ok (173, .pointer (some a)) w:=by kernel_rfl
theorem kS (n:Nat) (a:Addr) (w:World):(nilAhead (n+1) 134 (.pointer (some a)) "kalends/table.digest").run Tryz.prog w= .ok (some false) w:=by kernel_rfl
theorem mD (n:Nat) (a:Addr) (w:World):(method (n+1) 77 (.pointer (some a)) "kalends/table.length").run Tryz.prog w= .ok (169, .pointer (some a)) w:=by kernel_rfl
theorem mM (n:Nat) (a:Addr) (w:World):(nilAhead (n+1) 77 (.pointer (some a)) "kalends/table.length").run Tryz.prog w= .ok (some false) w:=by kernel_rfl
theorem kP (n:Nat) (a:Addr) (w:World):(method (n+1) 134 (.pointer (some a)) "kalends/table.length").run Tryz.prog w= .ok (175, .pointer (some a)) w:=by kernel_rfl
theorem kT (n:Nat) (a:Addr) (w:World):(nilAhead (n+1) 134 (.pointer (some a)) "kalends/table.length").run Tryz.prog w= .ok (some false) w:=by kernel_rfl
theorem TM (n:Nat) (a:Addr) (w:World):(method (n+1) 77 (.pointer (some a)) "kalends/table.flag").run Tryz.prog w= .ok (168, .pointer (some a)) w:=by kernel_rfl
theorem TT (n:Nat) (a:Addr) (w:World):(nilAhead (n+1) 77 (.pointer (some a)) "kalends/table.flag").run Tryz.prog w= .ok (some false) w:=by kernel_rfl
theorem iZ {w:World} {b o:Nat} {v:Value} (h:w.cell? ⟨b,o,none⟩=some v):w.setCell ⟨b,o,none⟩ v=w:=by
 have hh:(w.setCell ⟨b,o,none⟩ v).heap=w.heap:=by
  apply Array.ext_getElem?;intro k;by_cases hk:k=b
  ·subst hk;unfold World.cell? at h;simp only [World.setCell,Array.getElem?_modify];cases hb:w.heap[k]? with
   |none=>simp
   |some x=>
    cases x with
    |cells c e f=>
     rw [hb] at h;simp at h ⊢;exact (by
      apply Array.ext_getElem?;intro i;rw [Array.getElem?_setIfInBounds];split
      ·rename_i e;subst e;split
       ·exact h.symm
       ·rename_i e2;rw [Array.getElem?_eq_none (by omega)] at h;cases h
      ·rfl)
    |_=>simp
  ·exact heap_setCell_other w _ k v hk
 exact (show w.setCell ⟨b,o,none⟩ v= {w with heap:=(w.setCell ⟨b,o,none⟩ v).heap} from rfl).trans (by rw [hh])
attribute [local go_sem] mF mO mG mP qN qO mr mJ mD mM
theorem fA.drew {w:World} {g:Nat} {v:Value} {bs:List UInt8} (h:fA w g v bs):fA w.drew g v bs:=⟨h.1,h.2.drew⟩
theorem aI {g:Nat} {v v':Value} {w w':World} (h:gX g v w.drew v' w'):gX g v w v' w':=⟨h.os,h.tape,h.output,h.size,h.block,h.own⟩
theorem bu {w w':World} {g:Nat} {v v':Value} {bs:List UInt8} (h:fA w g v bs) (hk:gX g v w v' w'):Below g w w':=
 ⟨hk.os,hk.tape,hk.output,hk.size,fun k hb=>hk.block k (by have:=h.lt;omega) (by omega) (eU h.2 k (by omega))⟩
theorem Nl (w:World) (g:Nat) (p:Addr) (v:Value) (bs:List UInt8) (n:Int) (hf:fits n) (hl:bs.length≤1000000000) (hst:fA w g v bs) (hp:w.cell? p=some (I n)):
  Calls Tryz.prog 91 #[.iface 77 (pt g), .pointer (some p)] w (fE w g v (bs++le n 1)):=by
 have HC:=ae (bH w g p v bs n 1 hf.1 hf.2 (by omega) (by omega) hst.lt hst hp);clear hst hp;go_enter Tryz.func91,Tryz.ntmps91;go_wp2_with fail;refine HC.out.mono ?_;rintro e w1 ⟨rfl,h⟩;have H:=ae h;clear h HC;go_wp2_with fail
 go_end0
 exact ⟨rfl,H.out⟩
def WlRel (w:World) (g:Nat) (v:Value) (bs:List UInt8) (n:Nat) (zs:List Int) (i:Value) (wr:World):Prop:=
 ∃k:Nat,k≤n∧i= .int .i64 k∧∃v',fA wr g v' (bs++(le n 1++dm (zs.take k)))∧gX g v w v' wr
theorem xJ (w:World) (g lb lo:Nat) (A:Option Addr) (n c:Nat) (zs:List Int) (v:Value) (bs:List UInt8) (hn:zs.length=n) (hn2:n≤100000) (hp:w.cell? ⟨lb,lo,none⟩=some (.slice A n c)) (Lu:lb<g) (hA:fJ w g A zs) (hfit:∀z∈zs,fits z)
  (hl:bs.length≤100000000) (hst:fA w g v bs):
  Calls Tryz.prog 90 #[.iface 77 (pt g), .pointer (some ⟨lb,lo,none⟩),I 1, .func (.func 91) #[] #[]] w (fE w g v (bs++(le n 1++dm zs))):=by
 have HC:=ae (fP w.drew g v bs n 1 (by omega) (by omega) (by omega) (by omega) hst.drew);have HST:=ae hst;have HN:=ae hn;have HF:=ae hfit;have HA:=ae hA;have HP:=ae hp;have hgl:=hst.lt;clear hst hn hfit hA;go_enter Tryz.func90,Tryz.ntmps90;go_wp2_with fail;go_still_tail 9,(by kernel_rfl);go_wp2_with fail;refine HC.out.mono ?_;rintro e w1 ⟨rfl,v1,hs1,hk1⟩;have iq:=ae hs1;have iF:=ae (aI hk1);clear hs1 hk1 HC hp;go_wp2_with fail
 go_loopw [22] (fun i wr=>WlRel w g v bs n zs i wr) (fun i _=>n - (intOf i).toNat)
 case atStart=>exact ⟨0,Nat.zero_le _,rfl,v1,by simpa [dm] using iq.out,iF.out⟩
 case round=>
  obtain ⟨k,hk,rfl,v2,hs2,hk2⟩:=hrel;have hb2:=bu HST.out hk2;have HB2:=ae hb2;have HS2:=ae hs2;have iO:=ae hk2;have hp2:wr.cell? ⟨lb,lo,none⟩=some (.slice A n c):=(hb2.cell (p:=⟨lb,lo,none⟩) Lu).trans HP.out;clear hs2 hk2 hb2 iq iF;by_cases hlt:k<n
  ·have hkz:k<zs.length:=by rw [HN.out];exact hlt
   obtain ⟨b,off,rfl,hbg,hc0⟩:∃b off,A=some ⟨b,off,none⟩∧b<g∧∀j,j<zs.length→w.cell? ⟨b,off+j,none⟩=some (I (zs[j]?.getD 0)):=by
    rcases HA.out with h|h
    ·omega
    ·exact h
   obtain ⟨z,hz⟩:∃z,zs[k]? =some z:=⟨_,bZ hkz⟩;have hcz:wr.cell? ⟨b,off+k,none⟩=some (I z):=(HB2.out.cell (p:=⟨b,off+k,none⟩) hbg).trans (by rw [hc0 k hkz,hz];rfl);have hlen:(bs++(le (n:Int) 1++dm (zs.take k))).length≤1000000000:=by
    rw [aZ,aZ,aF,iG,List.length_take];omega
   have HM:=ae (Nl wr g ⟨b,off+k,none⟩ v2 _ z (HF.out z (dS hz)) hlen HS2.out hcz);have HZ:=ae hz;have i0:(0:Int)≤(k:Int):=by omega
   have i1:(k:Int)<(n:Int):=by omega
   have i2:((k:Int)==(n:Int))=false:=by simp;omega
   clear hkz hc0 hz hlen hcz;go_wp2_with fail;refine HM.out.mono ?_;rintro e w3 ⟨rfl,v3,hs3,hk3⟩;have jU:=ae hs3;have mV:=ae (iO.out.trans hk3);clear hs3 hk3 hp2;go_wp2_with fail;go_roundw
   case rel=>exact ⟨k+1,by omega,by go_num,v3,by rw [lh zs k z HZ.out,BG,←List.append_assoc (le _ _),←List.append_assoc];exact jU.out,mV.out⟩
   case measure=>simp [intOf];omega
  ·have hkn:k=n:=by omega
   have sW:=ae hkn;clear hkn;go_wp2_with fail
   go_end0
   exact ⟨rfl,v2,by have h:=HS2.out;rwa [sW.out,List.take_of_length_le (by rw [HN.out];exact Nat.le_refl _)] at h,iO.out⟩
theorem Dc (w:World) (g lb lo:Nat) (A:Option Addr) (c:Nat) (v:Value) (bs:List UInt8) (hp:w.cell? ⟨lb,lo,none⟩=some (.slice A 0 c)) (hl:bs.length≤100000000) (hst:fA w g v bs):
  Calls Tryz.prog 92 #[.iface 77 (pt g), .pointer (some ⟨lb,lo,none⟩),I 1, .func (.func 93) #[] #[]] w (fE w g v (bs++le 0 1)):=by
 have HC:=ae (fP w.drew g v bs 0 1 (by omega) (by omega) (by omega) (by omega) hst.drew);clear hst;go_enter Tryz.func92,Tryz.ntmps92;go_wp2_with fail;go_still_tail 9,(by kernel_rfl);go_wp2_with fail;refine HC.out.mono ?_;rintro e w1 ⟨rfl,v1,hs1,hk1⟩;have iq:=ae hs1;have iF:=ae (aI hk1);clear hs1 hk1 HC hp;go_wp2_with fail
 go_loop [22] (fun i=>i= .int .i64 0) (fun _=>0)
 case atStart=>rfl
 case round=>
  subst hrel;go_wp2_with fail
  go_end0
  exact ⟨rfl,v1,iq.out,iF.out⟩
theorem zT (w:World) (g lb lo:Nat) (A:Option Addr) (c:Nat) (v:Value) (bs:List UInt8) (hp:w.cell? ⟨lb,lo,none⟩=some (.slice A 0 c)) (hl:bs.length≤100000000) (hst:fA w g v bs):
  Calls Tryz.prog 69 #[.iface 77 (pt g), .pointer (some ⟨lb,lo,none⟩),I 2, .func (.func 70) #[] #[]] w (fE w g v (bs++le 0 2)):=by
 have HC:=ae (fP w.drew g v bs 0 2 (by omega) (by omega) (by omega) (by omega) hst.drew);clear hst;go_enter Tryz.func69,Tryz.ntmps69;go_wp2_with fail;go_still_tail 9,(by kernel_rfl);go_wp2_with fail;refine HC.out.mono ?_;rintro e w1 ⟨rfl,v1,hs1,hk1⟩;have iq:=ae hs1;have iF:=ae (aI hk1);clear hs1 hk1 HC hp;go_wp2_with fail
 go_loop [22] (fun i=>i= .int .i64 0) (fun _=>0)
 case atStart=>rfl
 case round=>
  subst hrel;go_wp2_with fail
  go_end0
  exact ⟨rfl,v1,iq.out,iF.out⟩
theorem Dh (w:World) (g lb lo:Nat) (A:Option Addr) (c:Nat) (v:Value) (bs:List UInt8) (hp:w.cell? ⟨lb,lo,none⟩=some (.slice A 0 c)) (hl:bs.length≤100000000) (hst:fA w g v bs):
  Calls Tryz.prog 71 #[.iface 77 (pt g), .pointer (some ⟨lb,lo,none⟩),I 1, .func (.func 72) #[] #[]] w (fE w g v (bs++le 0 1)):=by
 have HC:=ae (fP w.drew g v bs 0 1 (by omega) (by omega) (by omega) (by omega) hst.drew);clear hst;go_enter Tryz.func71,Tryz.ntmps71;go_wp2_with fail;go_still_tail 9,(by kernel_rfl);go_wp2_with fail;refine HC.out.mono ?_;rintro e w1 ⟨rfl,v1,hs1,hk1⟩;have iq:=ae hs1;have iF:=ae (aI hk1);clear hs1 hk1 HC hp;go_wp2_with fail
 go_loop [22] (fun i=>i= .int .i64 0) (fun _=>0)
 case atStart=>rfl
 case round=>
  subst hrel;go_wp2_with fail
  go_end0
  exact ⟨rfl,v1,iq.out,iF.out⟩
end Go.Proofs.YtdibbemgpikgjaaGreatDoor
namespace Go.Proofs.YtdibbemgpikgjaaGreatDoor
open Go Go.RowKit
def aA (w:World) (B:Nat) (A:Option Addr) (cs:List Value):Prop:=
 cs.length=0∨∃b off,A=some ⟨b,off,none⟩∧b<B∧∀j u,cs[j]? =some u→w.cell? ⟨b,off+j,none⟩=some u
section
variable {w w':World} {B B':Nat} {A:Option Addr} {cs:List Value}
theorem aA.keep (h:aA w B A cs) (hb:Below B w w'):aA w' B A cs:=by
 rcases h with h|⟨b,off,h1,h2,h3⟩
 ·exact .inl h
 ·exact .inr ⟨b,off,h1,h2,fun j u hu=>(hb.cell (p:=⟨b,off+j,none⟩) h2).trans (h3 j u hu)⟩
theorem aA.more (h:aA w B A cs) (hB:B≤B'):aA w B' A cs:=by
 rcases h with h|⟨b,off,h1,h2,h3⟩
 ·exact .inl h
 ·exact .inr ⟨b,off,h1,by omega,h3⟩
theorem aA.grow (h:aA w w.heap.size A cs) (hb:Below w.heap.size w w'):aA w' w'.heap.size A cs:=(h.keep hb).more hb.size
theorem aA.nil:aA w B A []:= .inl rfl
theorem aA.there (h:aA w B A cs) (h0:0<cs.length):∃b off,A=some ⟨b,off,none⟩∧b<B∧∀j u,cs[j]? =some u→w.cell? ⟨b,off+j,none⟩=some u:=by
 rcases h with h|h
 ·omega
 ·exact h
theorem aA.eQ {lo e size n c:Nat} (h:w.ownsRow lo e size (.slice A n c) n cs):aA w w.heap.size A cs:=by
 rcases h.2 with ⟨hv,hn⟩|⟨g,cap,cur,hv,_,hh,_⟩
 ·refine .inl ?_;rw [h.1,hn,Nat.zero_mul]
 ·injection hv with h1 _ _;subst h1;exact .inr ⟨g,0,rfl,(bT.1 hh).1,fun j u hu=>by rw [Nat.zero_add,←addr_add];exact h.cells (g:=g) rfl j u hu⟩
theorem aA.ints {zs:List Int} (h:aA w B A (zs.map I)):fJ w B A zs:=by
 rcases h with h|⟨b,off,h1,h2,h3⟩
 ·exact .inl (by simpa using h)
 ·refine .inr ⟨b,off,h1,h2,fun j hj=>?_⟩;rw [h3 j (I zs[j]) (by rw [List.getElem?_map,bZ hj];rfl),bZ hj];rfl
end
theorem flat_get {α:Type} {s:Nat} (f:α→List Value) (xs:List α) (hs:∀x∈xs,(f x).length=s) (k j:Nat) (x:α) (hx:xs[k]? =some x) (hj:j<s):(xs.flatMap f)[k*s+j]? =(f x)[j]? :=by
 induction xs generalizing k with
 |nil=>cases hx
 |cons y xs ih=>
  rw [List.flatMap_cons];have hy:=hs y (List.mem_cons_self ..);cases k with
  |zero=>
   injection hx with hx;subst hx;rw [Nat.zero_mul,Nat.zero_add,List.getElem?_append_left (by rw [hy];exact hj)]
  |succ k=>
   rw [List.getElem?_append_right (by rw [hy,Nat.succ_mul];omega),hy,show (k+1)*s+j - s=k*s+j by rw [Nat.succ_mul];omega];exact ih (fun x hx=>hs x (List.mem_cons_of_mem _ hx)) k hx
theorem dD {α:Type} {s:Nat} (f:α→List Value) (xs:List α) (hs:∀x∈xs,(f x).length=s):(xs.flatMap f).length=xs.length*s:=by
 induction xs with
 |nil=>simp
 |cons y xs ih=>rw [List.flatMap_cons,aZ,ih (fun x hx=>hs x (List.mem_cons_of_mem _ hx)),hs y (List.mem_cons_self ..),List.length_cons,Nat.succ_mul];omega
theorem F5 {α:Type} (f:α→List Value) (xs:List α) (h1:∀x∈xs,∀u∈f x,u.oneCell'=true):∀u∈xs.flatMap f,u.oneCell'=true:=by
 intro u hu;obtain ⟨x,hm,hx⟩:=List.mem_flatMap.1 hu;exact h1 x hm u hx
theorem aA.elem {α:Type} {w:World} {s b off:Nat} {f:α→List Value} {xs:List α} (hs:∀x∈xs,(f x).length=s) (h:∀j u,(xs.flatMap f)[j]? =some u→w.cell? ⟨b,off+j,none⟩=some u) (k:Nat) (x:α) (hx:xs[k]? =some x):w.rangeAt b (off+k*s) (f x):=by
 intro j u hu;have hj:j<s:=by rw [←hs x (dS hx)];exact (eG.1 hu).1
 rw [Nat.add_assoc];exact h _ u (by rw [flat_get f xs hs k j x hx hj];exact hu)
end Go.Proofs.YtdibbemgpikgjaaGreatDoor
