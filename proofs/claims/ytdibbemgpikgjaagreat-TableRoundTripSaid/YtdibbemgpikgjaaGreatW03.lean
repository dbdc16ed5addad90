/- The texts TbZ, TbE, TbW, TbX, TbM, in this order. -/
import Derived.Test.YtdibbemgpikgjaaGreatW00
import Derived.Test.YtdibbemgpikgjaaGreatW01
import Derived.Test.YtdibbemgpikgjaaGreatW02
set_option maxRecDepth 10000
set_option maxHeartbeats 8000000
namespace Go.Proofs.YtdibbemgpikgjaaGreat
open Go Go.RowKit
theorem QB (z:Zn) (s:Zs) (w:World) (h:ig z):Calls Tryz.prog 54 #[.agg (ax z s)] w fun e w'=>(∃b:Nat,e= .returned (.tuple #[pt b, .bool true]))∧Below w.heap.size w w':=by
 have hy:z.az.length=0:=by rw [h.az];rfl
 have e0:ax z s= #[I z.cal.aI, .slice s.A z.cal.aj.length s.a,I z.cal.aY, .slice s.B z.cal.rules.length s.b,I z.start, .slice s.C z.trans.length s.c,I z.hor, .slice s.D 0 s.d]:=by rw [←hy];rfl
 rw [e0];clear h hy e0;go_enter Tryz.func54,Tryz.ntmps54;go_wp2_with fail;go_ret2;exact ⟨⟨_,rfl⟩,ah (ag _ _) (ag _ _)⟩
theorem Aa (n l:Int) (w:World) (hl:0≤l∧l≤4503599627370496) (h1: -l≤n) (h2:n≤l):Calls Tryz.prog 31 #[I n,I l] w fun e w'=>e= .returned (.bool true)∧w'=w:=by
 have h:=zZ n l w hl;have e:(decide (-l≤n)&&decide (n≤l))=true:=by rw [decide_eq_true h1,decide_eq_true h2];rfl
 rw [e] at h;exact h
theorem eX {P:Program} {fn:Func} {p q:Tmp} {t1 t2:TypeId} (h:fn.results= #[.cell p t1, .cell q t2]) (tmps:Array Value) (w:World) (a b:Addr) (u v:Value)
  (hp:tmps.getD p undef= .pointer (some a)) (hu:(loadVar t1 a).run P w= .ok u w) (hq:tmps.getD q undef= .pointer (some b)) (hv:(loadVar t2 b).run P w= .ok v w):
  (results fn tmps).run P w= .ok (.tuple #[u,v]) w:=by
 have hp':tmps[p]?.getD undef= .pointer (some a):=by simpa using hp
 have hq':tmps[q]?.getD undef= .pointer (some b):=by simpa using hq
 simp [results,h,hp',hq',asAddr,hu,hv]
theorem rQ (W:World) (a:Addr) (b:Nat) (h:W.cell? a=some (pt b)):(loadVar 85 a).run Tryz.prog W= .ok (pt b) W:=by
 simp [go_sem,h]
theorem jh (W:World) (a:Addr) (b:Bool) (h:W.cell? a=some (.bool b)):(loadVar 4 a).run Tryz.prog W= .ok (.bool b) W:=by
 simp [go_sem,h]
structure ZO (w:World) (cs:Array Value) (W:World):Prop where
 row:Row W w.heap.size cs
 r1:W.heap[w.heap.size+1]? =some (.cells #[.pointer none] 85 (0,0))
 r2:W.heap[w.heap.size+2]? =some (.cells #[.bool false] 4 (0,0))
 up:Below w.heap.size w W
theorem ZO.below {w W W':World} {cs:Array Value} (h:ZO w cs W) (hb:Below W.heap.size W W'):ZO w cs W':=
 ⟨h.row.keep hb,(hb.block _ (bY.1 h.r1).1).trans h.r1,(hb.block _ (bY.1 h.r2).1).trans h.r2,ah h.up hb⟩
theorem KD (w:World) (cs:Array Value):ZO w cs (((w.alloc (.cells cs 51)).alloc (.cells #[.pointer none] 85)).alloc (.cells #[.bool false] 4)):=by
 have b0:=ag w (.cells cs 51);have r0:=Row.new w cs 51;obtain ⟨W1,hW1⟩:∃W,w.alloc (.cells cs 51)=W:=⟨_,rfl⟩;have hs1:W1.heap.size=w.heap.size+1:=by rw [←hW1];simp
 rw [hW1] at b0 r0 ⊢;have b1:=ag W1 (.cells #[.pointer none] 85);have h1:=heap_alloc_last W1 (.cells #[.pointer none] 85);obtain ⟨W2,hW2⟩:∃W,W1.alloc (.cells #[.pointer none] 85)=W:=⟨_,rfl⟩;have hs2:W2.heap.size=w.heap.size+2:=by rw [←hW2];simp [hs1]
 rw [hW2] at b1 h1 ⊢;rw [hs1] at h1;have b2:=ag W2 (.cells #[.bool false] 4);have h2:=heap_alloc_last W2 (.cells #[.bool false] 4);rw [hs2] at h2;exact ⟨(r0.keep b1).keep b2,(b2.block _ (by omega)).trans h1,h2,ah (ah b0 b1) b2⟩
theorem NY (z:Zn) (s:Zs) (w:World) (h:ig z) (hA:fO w w.heap.size s.A z.cal.aj):Calls Tryz.prog 30 #[.agg (ax z s)] w fun e w'=>(∃b:Nat,e= .returned (.tuple #[pt b, .bool true]))∧Below w.heap.size w w':=by
 have hT:z.trans.length=0:=by rw [h.trans];rfl
 have hy:z.az.length=0:=by rw [h.az];rfl
 have hr:z.cal.rules.length=0:=by rw [h.cal.ru];rfl
 have e0:ax z s= #[I z.cal.aI, .slice s.A z.cal.aj.length s.a,I z.cal.aY, .slice s.B 0 s.b,I z.start, .slice s.C 0 s.c,I z.hor, .slice s.D 0 s.d]:=by unfold ax;rw [hy,hT,hr]
 have HV:Hid (∀w',Below w.heap.size w w'→Calls Tryz.prog 53 #[.agg #[I z.cal.aI, .slice s.A z.cal.aj.length s.a,I z.cal.aY, .slice s.B 0 s.b]] w' (Gives (.bool true) w')):=ae fun w' hb=>by
  have h1:=Af z.cal s.A s.a s.B s.b w' ((hA.keep hb).more hb.size) h.cal;have e1:aG z.cal s.A s.a s.B s.b= #[I z.cal.aI, .slice s.A z.cal.aj.length s.a,I z.cal.aY, .slice s.B 0 s.b]:=by unfold aG;rw [hr]
  rwa [e1] at h1
 have HK:Hid (∀w',Calls Tryz.prog 54 #[.agg #[I z.cal.aI, .slice s.A z.cal.aj.length s.a,I z.cal.aY, .slice s.B 0 s.b,I z.start, .slice s.C 0 s.c,I z.hor, .slice s.D 0 s.d]] w' fun e w2=>(∃b:Nat,e= .returned (.tuple #[pt b, .bool true]))∧Below w'.heap.size w' w2):=ae fun w'=>by
  have:=QB z s w' h
  rwa [e0] at this
 have HW1:Hid (∀w,Calls Tryz.prog 31 #[I z.start,I 1080] w fun e w'=>e= .returned (.bool true)∧w'=w):=ae fun w=>Aa z.start 1080 w (by omega) h.start.1 h.start.2;have HW2:Hid (∀w,Calls Tryz.prog 31 #[I z.hor,I 2251799813685248] w fun e w'=>e= .returned (.bool true)∧w'=w):=ae fun w=>Aa z.hor 2251799813685248 w (by omega) h.hor.1 h.hor.2;have HZ0:=ae (KD w #[I z.cal.aI, .slice s.A z.cal.aj.length s.a,I z.cal.aY, .slice s.B 0 s.b,I z.start, .slice s.C 0 s.c,I z.hor, .slice s.D 0 s.d]);rw [e0];clear h hy hT hr e0 hA;go_enter Tryz.func30,Tryz.ntmps30;go_wp2_with fail;refine (HV.out _ HZ0.out.up).mono ?_;rintro e w1 ⟨rfl,hb1⟩;have HZ1:=ae (HZ0.out.below hb1);have k1:=HZ1.out.row.2;clear hb1 HZ0 HV;go_wp2_with fail;refine (HW1.out _).mono ?_;rintro e w2 ⟨rfl,rfl⟩;go_wp2_with fail;refine (HW2.out _).mono ?_;rintro e w3 ⟨rfl,rfl⟩;go_wp2_with fail
 go_loopw [37] (fun i wr=>i=I 0∧wr=w3) (fun _ _=>0)
 case atStart=>exact ⟨rfl,rfl⟩
 case round=>
  obtain ⟨rfl,rfl⟩:=hrel;go_wp2_with fail
  go_loopw [90] (fun i wr2=>i=I 0∧wr2=wr) (fun _ _=>0)
  case atStart=>exact ⟨rfl,rfl⟩
  case round=>
   obtain ⟨rfl,rfl⟩:=hrel;go_wp2_with fail;refine (HK.out _).mono ?_;rintro e w5 ⟨⟨b,rfl⟩,hb5⟩;have Oh:=ae (HZ1.out.below hb5);have k5:=Oh.out.row.2;have hlt5:w.heap.size+1+1<w5.heap.size:=(bY.1 Oh.out.r2).1;have hlt3:w.heap.size<w5.heap.size:=by omega
   have hlt4:w.heap.size+1<w5.heap.size:=by omega
   have c1:w5.cell? ⟨w.heap.size+1,0,none⟩=some (.pointer none):=cell_of_row w5 _ 0 _ _ _ Oh.out.r1;have c2:w5.cell? ⟨w.heap.size+1+1,0,none⟩=some (.bool false):=cell_of_row w5 _ 0 _ _ _ Oh.out.r2;have f1:w5.frozen? ⟨w.heap.size+1,0,none⟩=false:=frozen_of_row w5 _ 0 _ _ Oh.out.r1;have f2:w5.frozen? ⟨w.heap.size+1+1,0,none⟩=false:=frozen_of_row w5 _ 0 _ _ Oh.out.r2;clear hb5 HZ1 k1 HK;go_wp2_with fail;refine bodyPost_ret (v:= .tuple #[pt b, .bool true]) (eX rfl _ _ ⟨w.heap.size+1,0,none⟩ ⟨w.heap.size+1+1,0,none⟩ (pt b) (.bool true) rfl (rQ _ _ _ ?_) rfl (jh _ _ _ ?_)) rfl ⟨⟨b,rfl⟩,?_⟩
   ·go_simp
   ·go_simp
   ·exact ah ((Oh.out.up.setCell (p:=⟨w.heap.size+1,0,none⟩) (Nat.le_succ _) _).setCell (p:=⟨w.heap.size+1+1,0,none⟩) (by show w.heap.size≤w.heap.size+1+1;omega) _) (ah (ag _ _) (ag _ _))
theorem uK (z:Zn) (s:Zs) (w:World) (h:ig z) (hA:fO w w.heap.size s.A z.cal.aj):Calls Tryz.prog 39 #[.agg (ax z s)] w (Gives (I 0) w):=by
 have hT:z.trans.length=0:=by rw [h.trans];rfl
 have HO:Hid (∀w',Below w.heap.size w w'→Calls Tryz.prog 30 #[.agg (ax z s)] w' fun e w2=>(∃b:Nat,e= .returned (.tuple #[pt b, .bool true]))∧Below w'.heap.size w' w2):=ae fun w' hb=>NY z s w' h ((hA.keep hb).more hb.size);have HR0:=ae (Row.new w (ax z s) 51);have HB0:=ae (ag w (.cells (ax z s) 51));have e0:ax z s= #[I z.cal.aI, .slice s.A z.cal.aj.length s.a,I z.cal.aY, .slice s.B z.cal.rules.length s.b,I z.start, .slice s.C 0 s.c,I z.hor, .slice s.D z.az.length s.d]:=by unfold ax;rw [hT]
 rw [e0] at HO HR0 HB0 ⊢;clear h hT e0 hA;go_enter Tryz.func39,Tryz.ntmps39;go_wp2_with fail;refine (HO.out _ HB0.out).mono ?_;rintro e w1 ⟨⟨b,rfl⟩,hb1⟩;have HB1:=ae (ah HB0.out hb1);clear hb1;go_wp2_with fail;go_ret;exact ⟨rfl,HB1.out⟩
structure Ze where
 name:ByteArray
 z:Zn
structure dA where
 e:Ze
 s:Zs
def dA.cells (x:dA):Array Value:= #[.string x.e.name,I x.e.z.cal.aI, .slice x.s.A x.e.z.cal.aj.length x.s.a,I x.e.z.cal.aY, .slice x.s.B x.e.z.cal.rules.length x.s.b,I x.e.z.start, .slice x.s.C x.e.z.trans.length x.s.c,I x.e.z.hor, .slice x.s.D x.e.z.az.length x.s.d]
structure Tb where
 bC:Int
 version:Int
 aH:Int
 prev:List UInt8
 bJ:List UInt8
 aK:List Ze
def kV (t:Tb) (vz:Value):List Value:= [I t.bC,I t.version,I t.aH,vz]++(au t.prev++au t.bJ)
def ai (t:Tb) (vz:Value):Array Value:=(kV t vz).toArray
section
variable (t:Tb) (vz:Value)
theorem jm:(ai t vz)[0]? =some (I t.bC):=rfl
theorem jo:(ai t vz)[1]? =some (I t.version):=rfl
theorem jq:(ai t vz)[2]? =some (I t.aH):=rfl
theorem bK:(ai t vz)[3]? =some vz:=rfl
theorem aZ (h:t.prev.length=32) (h2:t.bJ.length=32):(ai t vz).size=68:=by simp [ai,kV,au,h,h2]
theorem bP (h:t.prev.length=32) (h2:t.bJ.length=32):(Tryz.prog.info? 32).map (·.size)=some (ai t vz).size:=by rw [aZ t vz h h2];kernel_rfl
theorem qh {W:World} {b:Nat} (hr:Row W b (ai t vz)):W.rangeAt b 4 (au t.prev):=fun j v hv=>by
 rw [hr.2 (4+j)];unfold ai kV;rw [List.getElem?_toArray,List.getElem?_append_right (by simp)];have hj:=(iP.1 hv).1;rw [show 4+j - [I t.bC,I t.version,I t.aH,vz].length=j by simp,List.getElem?_append_left hj];exact hv
theorem Ho {W:World} {b:Nat} (hr:Row W b (ai t vz)) (hp:t.prev.length=32):W.rangeAt b 36 (au t.bJ):=fun j v hv=>by
 rw [hr.2 (36+j)];unfold ai kV;have hl:(au t.prev).length=32:=by simp [au,hp]
 rw [List.getElem?_toArray,List.getElem?_append_right (by simp;omega),List.getElem?_append_right (by simp [hl];omega)];rw [show 36+j - [I t.bC,I t.version,I t.aH,vz].length - (au t.prev).length=j by simp [hl];omega];exact hv
end
def E8 (w:World) (B:Nat) (A:Option Addr) (zs:List dA):Prop:=
 zs.length=0∨∃b,A=some ⟨b,0,none⟩∧b<B∧∀k x,zs[k]? =some x→w.rangeAt b (k*9) x.cells.toList∧fO w B x.s.A x.e.z.cal.aj
theorem E8.keep {w w':World} {B:Nat} {A:Option Addr} {zs:List dA} (h:E8 w B A zs) (hb:Below B w w'):E8 w' B A zs:=by
 rcases h with h|⟨b,h1,h2,h3⟩
 ·exact .inl h
 ·exact .inr ⟨b,h1,h2,fun k x hx=>⟨aW (h3 k x hx).1 hb h2,(h3 k x hx).2.keep hb⟩⟩
section
variable {P:Program} {ops:Array Oper} {Q:Exit→Act→World→Prop} {a:Act} {w:World} {rest:List Oper} {o:Oper}
theorem bU (hw:Region.wanted o (yielded ops a.tmps)=true) (ty:TypeId) (x:Operand) (ho:o.op= .load ty x) (g off:Nat) (hx:a.eval x= .pointer (some ⟨g,off,none⟩)) (cs:List Value) (hr:w.rangeAt g off cs)
  (d:TypeDesc) (hu:P.underlying ty=some d) (hd:d.isRow=true) (hi:(P.info? ty).map (·.size)=some cs.length)
  (h:wpList P ops Q rest (a.put o.dst (.agg cs.toArray)) w):wpList P ops Q (o::rest) a w:=by
 unfold wpList;rw [if_pos hw];exact .inl (wp_load_mid ty x ho g off hx cs d hr hu hd hi h)
end
structure lF (t:Tb):Prop where
 bC:0≤t.bC∧t.bC<16
 version:1≤t.version∧t.version≤64
 aH:0≤t.aH∧t.aH<t.version
 prev:t.prev.length=32
 bJ:t.bJ.length=32
 first:t.version=1→t.prev=aS
 num:t.aK.length≤128
 flat:∀e∈t.aK,ig e.z
 short:∀e∈t.aK,e.name.size≤32
def fG (w:World) (g:Nat) (v:Value) (bs:List UInt8):Prop:=
 w.heap[g]? =some (.cells #[v] 73 (0,0))∧w.ownsRow (g+1) 5 1 v bs.length (bs.map Extern.Stop.cell)
theorem QF {w w1:World} {g:Nat} {v v':Value} {bs:List UInt8} {c:UInt8} {o:Obj} (h:fG w g v bs) (hg:g<w.heap.size)
  (hown:w1.ownsRow (g+1) 5 1 v' (bs.length+1) (bs.map Extern.Stop.cell++ [Extern.Stop.cell c])) (hgrow:(w.alloc o).grownBy w1 v.ownBlock)
  (hat:v'.ownBlock=v.ownBlock∨v'.ownBlock=some (w.heap.size+1)):
  w1.heap[g]? =some (.cells #[v] 73 (0,0))∧fG (w1.setCell ⟨g,0,none⟩ v') g v' (bs++ [c])∧iy g v w v' (w1.setCell ⟨g,0,none⟩ v'):=by
 have hne:some g≠v.ownBlock:=eG h.2 g (Nat.lt_succ_self g);have hg1:w1.heap[g]? =some (.cells #[v] 73 (0,0)):=by
  rw [hgrow.block g (by simp;omega) hne,Below.heap_alloc w o g hg];exact h.1
 refine ⟨hg1,⟨?_,?_⟩,?_⟩
 ·rw [heap_setCell_same w1 g 0 _ _ v' hg1];rfl
 ·have:=dn (u:=v') (p:=⟨g,0,none⟩) hown (eG hown g (Nat.lt_succ_self g));simpa using this
 ·refine ⟨hgrow.os,hgrow.tape,hgrow.output,?_,fun k hk hkg hkv=>?_,?_⟩
  ·have:=hgrow.size;simp [World.setCell] at this ⊢;omega
  ·rw [heap_setCell_other w1 _ k v' hkg,hgrow.block k (by simp;omega) hkv,Below.heap_alloc w o k hk]
  ·rcases hat with e|e
   ·exact .inl e
   ·exact .inr ⟨_,e,by omega⟩
def fJ (w:World) (g:Nat) (v:Value) (bs:List UInt8) (e:Ending) (w':World):Prop:=
 e= .returned (.tuple #[])∧∃v',fG w' g v' bs∧iy g v w v' w'
def TwRel (w:World) (g:Nat) (v:Value) (bs:List UInt8) (n:Int) (size:Nat) (x i:Value) (wr:World):Prop:=
 ∃k:Nat,k≤size∧i= .int .i64 k∧x= .int .i64 (kQ n k)∧∃v',fG wr g v' (bs++le n k)∧iy g v w v' wr
theorem cu (w:World) (g:Nat) (p:Addr) (v:Value) (bs:List UInt8) (n:Int) (size:Nat) (hn0: -9223372036854775808≤n) (hn1:n≤9223372036854775807) (hs:size≤8) (hl:bs.length≤1099511627776) (hg:g<w.heap.size) (hst:fG w g v bs) (hp:w.cell? p=some (I n)):
  Calls Tryz.prog 160 #[pt g, .pointer (some p),I size] w (fJ w g v (bs++le n size)):=by
 obtain ⟨i0,hi,hz0,hz1,hz2⟩:=info_parts lZ;have HST:=ae hst;clear hst;go_enter Tryz.func160,Tryz.ntmps160
 go_wp2
 go_loopw [6,11] (fun x i wr=>TwRel w g v bs n size x i wr) (fun _ i _=>size - (intOf i).toNat)
 case atStart=>exact ⟨0,Nat.zero_le _,rfl,rfl,v,by simpa [le] using HST.out,iy.refl _ _ _⟩
 case round=>
  obtain ⟨k,hk,rfl,rfl,v1,hw1,hk1⟩:=hrel;by_cases hlt:k<size
  ·obtain ⟨x,hx⟩:∃x,kQ n k=x:=⟨_,rfl⟩;have hbd:=Nl n k hn0 hn1;rw [hx] at hbd ⊢;have HX:=ae hx;obtain ⟨B,hB⟩:∃B,bs++le n k=B:=⟨_,rfl⟩;have hlen:B.length≤1099511627784:=by rw [←hB,bF,aA];omega
   rw [hB] at hw1;have HBB:=ae hB;have hc:=cell_of_row wr g 0 _ _ _ hw1.1;have hgr:g<wr.heap.size:=dS hg hk1.size;have HW:=ae hw1;have HK:=ae hk1;have hown:=ae hw1.2;clear hx hw1 hk1 hB;go_wp2_with (at_builtin;refine wpList_append_own_at _ rfl _ _ 22 rfl (g+1) 5 i0 (.int .u8 0) 1 1 Tryz.underlying22 hi hz0 hz1 hz2 rfl (by decide) _ _ _ rfl (hown.out.alloc _) ⟨wr.heap.size,0,none⟩ 1 1 [Extern.Stop.cell (byteOf x)] rfl rfl ?c1 ?c2 ?c3 ?c4 ?c5 ?_)
   case c1=>
    rw [fE];exact cell_one_new _ _ _
   case c2=>intro u hu;simp at hu;subst hu;rfl
   case c3=>unfold maxLen;omega
   case c4=>omega
   case c5=>simp;omega
   intro v' w1 hown' hgrow _ hat;obtain ⟨hg1,hst1,hkp1⟩:=QF HW.out hgr hown' hgrow hat;obtain ⟨g',cap',rfl,_⟩:=eU hown' (Nat.succ_pos _);have hc1:=cell_of_row w1 g 0 _ _ _ hg1;have hf1:=frozen_of_row w1 g 0 _ _ hg1;have HST1:=ae hst1;have HKP1:=ae hkp1;clear hown' hgrow hat hg1 hst1 hkp1 hc
   go_wp2
   go_roundw
   case rel=>exact ⟨k+1,by omega,by go_num,by unfold kQ;rw [HX.out],_,by rw [GX,←List.append_assoc,HBB.out,HX.out];exact HST1.out,HK.out.trans HKP1.out⟩
   case measure=>simp [intOf];omega
  ·have hke:k=size:=by omega
   have VZ:=ae hke;have HW:=ae hw1;have HK:=ae hk1;clear hke hw1 hk1
   go_wp2
   go_end0
   exact ⟨rfl,v1,by rw [←VZ.out];exact HW.out,HK.out⟩
theorem fG.lt {w:World} {g:Nat} {v:Value} {bs:List UInt8} (h:fG w g v bs):g<w.heap.size:=(bY.1 h.1).1
theorem fG.grow {w w':World} {g:Nat} {v:Value} {bs:List UInt8} (h:fG w g v bs) (hb:Below w.heap.size w w'):fG w' g v bs∧iy g v w v w':=
 ⟨⟨(hb.block g h.lt).trans h.1,bf h.2 fun k _ hk=>hb.block k hk⟩,⟨hb.os,hb.tape,hb.output,hb.size,fun k hk _ _=>hb.block k hk, .inl rfl⟩⟩
theorem fG.far {w w':World} {g:Nat} {v v':Value} {bs:List UInt8} (_h:fG w g v bs) (hk:iy g v w v' w') (b:Nat) (hb:b<w.heap.size) (hg:b≠g) (ho:some b≠v.ownBlock):w'.heap[b]? =w.heap[b]? :=hk.block b hb hg ho
theorem fG.new_ne {w:World} {g:Nat} {v:Value} {bs:List UInt8} (h:fG w g v bs):w.heap.size≠g∧some w.heap.size≠v.ownBlock:=
 ⟨by have:=h.lt;omega,fun e=>by have:=own_lt h.2 _ e.symm;omega⟩
theorem fP (w:World) (g:Nat) (v:Value) (bs:List UInt8) (n:Int) (size:Nat) (hn0: -9223372036854775808≤n) (hn1:n≤9223372036854775807) (hs:size≤8) (hl:bs.length≤1099511627776) (hst:fG w g v bs):
  Calls Tryz.prog 159 #[pt g,I n,I size] w fun e w'=>e= .returned (I n)∧∃v',fG w' g v' (bs++le n size)∧iy g v w v' w':=by
 obtain ⟨h1,h2⟩:=hst.grow (ag w (.cells #[I n] 3));have hne:=hst.new_ne;have HC:=ae (cu (w.alloc (.cells #[I n] 3)) g ⟨w.heap.size,0,none⟩ v bs n size hn0 hn1 hs hl h1.lt h1 ((Row.new w #[I n] 3).2 0));have HB:=ae (heap_alloc_last w (.cells #[I n] 3));have H1:=ae h1;have H2:=ae h2;have KW:=ae hne;clear h1 h2 hst hne;go_enter Tryz.func159,Tryz.ntmps159;go_wp2_with fail;refine HC.out.mono ?_;rintro e w1 ⟨rfl,v1,hs1,hk1⟩;have k1:w1.cell? ⟨w.heap.size,0,none⟩=some (I n):=cell_of_row w1 _ 0 _ _ _ ((H1.out.far hk1 w.heap.size (by simp) KW.out.1 KW.out.2).trans HB.out);have HS:=ae hs1;have HK:=ae (H2.out.trans hk1);clear hs1 hk1 HC;go_wp2_with fail;go_ret;exact ⟨rfl,v1,HS.out,HK.out⟩
theorem Kr {w W w1:World} {g m:Nat} {v v':Value} {bs xs:List UInt8} (h:fG w g v bs) (hW:W.heap=w.heap) (h1:W.os=w.os) (h2:W.tape=w.tape) (h3:W.output=w.output) (hm:m=bs.length+xs.length)
  (hown:w1.ownsRow (g+1) 5 1 v' m (bs.map Extern.Stop.cell++xs.map Extern.Stop.cell)) (hgrow:W.grownBy w1 v.ownBlock) (hat:v'.ownBlock=v.ownBlock∨v'.ownBlock=some w.heap.size):
  w1.heap[g]? =some (.cells #[v] 73 (0,0))∧fG (w1.setCell ⟨g,0,none⟩ v') g v' (bs++xs)∧iy g v w v' (w1.setCell ⟨g,0,none⟩ v'):=by
 subst hm;have hg:=h.lt;have hne:some g≠v.ownBlock:=eG h.2 g (Nat.lt_succ_self g);have hg1:w1.heap[g]? =some (.cells #[v] 73 (0,0)):=by
  rw [hgrow.block g (by rw [hW];exact hg) hne,hW];exact h.1
 refine ⟨hg1,⟨?_,?_⟩,?_⟩
 ·rw [heap_setCell_same w1 g 0 _ _ _ hg1];rfl
 ·have:=dn (u:=v') (p:=⟨g,0,none⟩) hown (eG hown g (Nat.lt_succ_self g));simpa using this
 ·refine ⟨hgrow.os.trans h1,hgrow.tape.trans h2,hgrow.output.trans h3,?_,fun k hk hkg hkv=>?_,?_⟩
  ·have:=hgrow.size;rw [hW] at this;simp [World.setCell];omega
  ·rw [heap_setCell_other w1 _ k _ hkg,hgrow.block k (by rw [hW];exact hk) hkv,hW]
  ·exact hat.elim .inl fun e=> .inr ⟨_,e,Nat.le_refl _⟩
theorem qi (w:World) (g:Nat) (p:Addr) (v:Value) (bs:List UInt8) (n:Int) (hn0: -9223372036854775808≤n) (hn1:n≤9223372036854775807) (hl:bs.length≤1099511627776) (hst:fG w g v bs) (hp:w.cell? p=some (I n)):
  Calls Tryz.prog 161 #[pt g, .pointer (some p)] w (fJ w g v (bs++le n 2)):=by
 have HC:=ae (cu w g p v bs n 2 hn0 hn1 (by omega) hl hst.lt hst hp);clear hst hp;go_enter Tryz.func161,Tryz.ntmps161;go_wp2_with fail;refine HC.out.mono ?_;rintro e w1 ⟨rfl,h⟩;have H:=ae h;clear h HC;go_wp2_with fail
 go_end0
 exact ⟨rfl,H.out⟩
theorem zN (w:World) (g db off:Nat) (v:Value) (bs ds:List UInt8) (hl:bs.length≤1000000000000) (hd:w.rangeAt db off (au ds)) (h32:ds.length=32) (hst:fG w g v bs):
  Calls Tryz.prog 157 #[pt g, .pointer (some ⟨db,off,none⟩)] w (fJ w g v (bs++ds)):=by
 have hc0:w.cell? ⟨g,0,none⟩=some v:=cell_of_row w g 0 _ _ _ hst.1;have hgl:g<w.heap.size:=hst.lt;have HI:=ae hst;obtain ⟨i0,hi,hz0,hz1,hz2⟩:=info_parts lZ;have hnews:∀j u,(au ds)[j]? =some u→w.drew.cell? ((⟨db,off,none⟩:Addr).add j)=some u:=fun j u hu=>by
  rw [Addr.add_mid];exact hd j u hu
 have hmx:bs.length+32≤maxLen:=by unfold maxLen;omega
 have hby:(bs.length+32)*1≤140737488355328:=by omega
 clear hst hd;go_enter Tryz.func157,Tryz.ntmps157;go_wp2_with fail
 go_region_law ((refine step_append_lies _ (by rfl) _ _ _ (by rfl) (g+1) 5 i0 _ 1 1 Tryz.underlying22 hi hz0 hz1 hz2 rfl (by omega) v bs.length (bs.map Extern.Stop.cell) (by rfl) (HI.out.2.drew) ⟨db,off,none⟩ 32 32 (au ds) (by rfl) (by simp [au,h32]) hnews (xO ds) (by omega) hmx hby (Nat.succ_le_of_lt hgl) w.heap.size rfl ?_;intro gg cap w1 hown1 hgrow hat hlt;have hS:=Kr (w:=w) (W:=w.drew) (xs:=ds) (m:=bs.length+32) HI.out rfl rfl rfl rfl (by rw [h32]) hown1 hgrow (hat.elim (fun e=> .inl e.symm) (fun e=> .inr (by rw [←e];rfl)));have hc2:w1.cell? ⟨g,0,none⟩=some v:=cell_of_row w1 g 0 _ _ _ hS.1;have hf2:=frozen_of_row w1 g 0 _ _ hS.1;have vW:=ae hS;clear hS hown1 hgrow hat hlt))
 all_goals
  go_wp2
  go_end0
  exact ⟨rfl,_,vW.out.2.1,vW.out.2.2⟩
theorem F7 (w:World) (g:Nat) (p:Addr) (v:Value) (bs:List UInt8) (s:ByteArray) (hs:s.size≤1000000) (hl:bs.length≤1000000000) (hst:fG w g v bs) (hp:w.cell? p=some (.string s)) (hpg:p.block≠g) (hpv:some p.block≠v.ownBlock) (hpl:p.block<w.heap.size):
  Calls Tryz.prog 162 #[pt g, .pointer (some p)] w (fJ w g v (bs++(le s.size 1++s.data.toList))):=by
 have HC:=ae (fP w g v bs s.size 1 (by omega) (by omega) (by omega) (by omega) hst);have HST:=ae hst;have HPK:=ae (show p.block≠g∧some p.block≠v.ownBlock from ⟨hpg,hpv⟩);clear hst hpg hpv;go_enter Tryz.func162,Tryz.ntmps162;go_wp2_with fail;refine HC.out.mono ?_;rintro e w1 ⟨rfl,v1,hw1,hk1⟩;have hlen:(bs++le (s.size:Int) 1).length≤1000000008:=by rw [bF,aA];omega
 have hpos:0<(bs++le (s.size:Int) 1).length:=by rw [bF,aA];omega
 obtain ⟨B,hB⟩:∃B,bs++le (s.size:Int) 1=B:=⟨_,rfl⟩;rw [hB] at hw1 hlen hpos;have hp1:w1.cell? p=some (.string s):=(World.cell?_of_block (hk1.block p.block hpl HPK.out.1 HPK.out.2)).trans hp;have HB:=ae hB;have HW:=ae hw1;have HK:=ae hk1;have hc1:=cell_of_row w1 g 0 _ _ _ hw1.1;have hgl:g<w1.heap.size:=hw1.lt;clear hB hw1 hk1 HC hp;go_wp2_with fail
 go_region_law ((refine Hl (by rfl) _ _ (by rfl) (g+1) v1 B.length (B.map Extern.Stop.cell) (by rfl) (HW.out.2.drew) s (by rfl) (by omega) (Nat.succ_le_of_lt hgl) (by omega) ?_;intro gg cap w2 hown2 hgrow hat;have hS:=Kr (w:=w1) (W:=w1.drew) (xs:=s.data.toList) (m:=B.length+s.size) HW.out rfl rfl rfl rfl (by rw [Array.length_toList];rfl) hown2 hgrow hat;have hc2:w2.cell? ⟨g,0,none⟩=some v1:=cell_of_row w2 g 0 _ _ _ hS.1;have hf2:=frozen_of_row w2 g 0 _ _ hS.1;have vW:=ae hS;clear hS hown2 hgrow hat))
 all_goals
  go_wp2
  go_end0
  exact ⟨rfl,_,by rw [←List.append_assoc,HB.out];exact vW.out.2.1,HK.out.trans vW.out.2.2⟩
theorem jX (n:Nat) (a:Addr) (w:World):(method (n+1) 71 (.pointer (some a)) "kalends/table.number").run Tryz.prog w= .ok (160, .pointer (some a)) w:=by kernel_rfl
theorem kC (n:Nat) (a:Addr) (w:World):(nilAhead (n+1) 71 (.pointer (some a)) "kalends/table.number").run Tryz.prog w= .ok (some false) w:=by kernel_rfl
theorem dD (n:Nat) (a:Addr) (w:World):(method (n+1) 109 (.pointer (some a)) "kalends/table.number").run Tryz.prog w= .ok (166, .pointer (some a)) w:=by kernel_rfl
theorem dH (n:Nat) (a:Addr) (w:World):(nilAhead (n+1) 109 (.pointer (some a)) "kalends/table.number").run Tryz.prog w= .ok (some false) w:=by kernel_rfl
theorem jY (n:Nat) (a:Addr) (w:World):(method (n+1) 71 (.pointer (some a)) "kalends/table.offset").run Tryz.prog w= .ok (161, .pointer (some a)) w:=by kernel_rfl
theorem kD (n:Nat) (a:Addr) (w:World):(nilAhead (n+1) 71 (.pointer (some a)) "kalends/table.offset").run Tryz.prog w= .ok (some false) w:=by kernel_rfl
theorem dE (n:Nat) (a:Addr) (w:World):(method (n+1) 109 (.pointer (some a)) "kalends/table.offset").run Tryz.prog w= .ok (167, .pointer (some a)) w:=by kernel_rfl
theorem dI (n:Nat) (a:Addr) (w:World):(nilAhead (n+1) 109 (.pointer (some a)) "kalends/table.offset").run Tryz.prog w= .ok (some false) w:=by kernel_rfl
theorem nK (n:Nat) (a:Addr) (w:World):(method (n+1) 71 (.pointer (some a)) "kalends/table.text").run Tryz.prog w= .ok (162, .pointer (some a)) w:=by kernel_rfl
theorem nM (n:Nat) (a:Addr) (w:World):(nilAhead (n+1) 71 (.pointer (some a)) "kalends/table.text").run Tryz.prog w= .ok (some false) w:=by kernel_rfl
theorem ed (n:Nat) (a:Addr) (w:World):(method (n+1) 109 (.pointer (some a)) "kalends/table.text").run Tryz.prog w= .ok (168, .pointer (some a)) w:=by kernel_rfl
theorem eu (n:Nat) (a:Addr) (w:World):(nilAhead (n+1) 109 (.pointer (some a)) "kalends/table.text").run Tryz.prog w= .ok (some false) w:=by kernel_rfl
theorem jV (n:Nat) (a:Addr) (w:World):(method (n+1) 71 (.pointer (some a)) "kalends/table.digest").run Tryz.prog w= .ok (157, .pointer (some a)) w:=by kernel_rfl
theorem ku (n:Nat) (a:Addr) (w:World):(nilAhead (n+1) 71 (.pointer (some a)) "kalends/table.digest").run Tryz.prog w= .ok (some false) w:=by kernel_rfl
theorem dB (n:Nat) (a:Addr) (w:World):(method (n+1) 109 (.pointer (some a)) "kalends/table.digest").run Tryz.prog w= .ok (163, .pointer (some a)) w:=by kernel_rfl
theorem dF (n:Nat) (a:Addr) (w:World):(nilAhead (n+1) 109 (.pointer (some a)) "kalends/table.digest").run Tryz.prog w= .ok (some false) w:=by kernel_rfl
theorem jW (n:Nat) (a:Addr) (w:World):(method (n+1) 71 (.pointer (some a)) "kalends/table.length").run Tryz.prog w= .ok (159, .pointer (some a)) w:=by kernel_rfl
theorem kz (n:Nat) (a:Addr) (w:World):(nilAhead (n+1) 71 (.pointer (some a)) "kalends/table.length").run Tryz.prog w= .ok (some false) w:=by kernel_rfl
theorem dC (n:Nat) (a:Addr) (w:World):(method (n+1) 109 (.pointer (some a)) "kalends/table.length").run Tryz.prog w= .ok (165, .pointer (some a)) w:=by kernel_rfl
theorem dG (n:Nat) (a:Addr) (w:World):(nilAhead (n+1) 109 (.pointer (some a)) "kalends/table.length").run Tryz.prog w= .ok (some false) w:=by kernel_rfl
theorem Ur (n:Nat) (a:Addr) (w:World):(method (n+1) 71 (.pointer (some a)) "kalends/table.flag").run Tryz.prog w= .ok (158, .pointer (some a)) w:=by kernel_rfl
theorem Uz (n:Nat) (a:Addr) (w:World):(nilAhead (n+1) 71 (.pointer (some a)) "kalends/table.flag").run Tryz.prog w= .ok (some false) w:=by kernel_rfl
theorem jA (n:Nat) (a:Addr) (w:World):(method (n+1) 109 (.pointer (some a)) "kalends/table.flag").run Tryz.prog w= .ok (164, .pointer (some a)) w:=by kernel_rfl
theorem jB (n:Nat) (a:Addr) (w:World):(nilAhead (n+1) 109 (.pointer (some a)) "kalends/table.flag").run Tryz.prog w= .ok (some false) w:=by kernel_rfl
theorem jl {w:World} {b o:Nat} {v:Value} (h:w.cell? ⟨b,o,none⟩=some v):w.setCell ⟨b,o,none⟩ v=w:=by
 have hh:(w.setCell ⟨b,o,none⟩ v).heap=w.heap:=by
  apply Array.ext_getElem?;intro k;by_cases hk:k=b
  ·subst hk;unfold World.cell? at h;simp only [World.setCell,Array.getElem?_modify];cases hb:w.heap[k]? with
   |none=>simp
   |some x=>
    cases x with
    |cells c e f=>
     rw [hb] at h;simp at h ⊢;exact (by
      apply Array.ext_getElem?;intro i;rw [Array.getElem?_setIfInBounds];split
      ·rename_i e;subst e;split
       ·exact h.symm
       ·rename_i e2;rw [Array.getElem?_eq_none (by omega)] at h;cases h
      ·rfl)
    |_=>simp
  ·exact heap_setCell_other w _ k v hk
 exact (show w.setCell ⟨b,o,none⟩ v= {w with heap:=(w.setCell ⟨b,o,none⟩ v).heap} from rfl).trans (by rw [hh])
end Go.Proofs.YtdibbemgpikgjaaGreat
