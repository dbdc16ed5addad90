/- The texts Ph, Pi, in this order. -/
import Derived.Test.YtdibbemgpikgjaaGreatDoorV00
import Derived.Test.YtdibbemgpikgjaaGreatDoorV05
import Derived.Test.YtdibbemgpikgjaaGreatDoorV07
namespace Go.Proofs.YtdibbemgpikgjaaGreatDoor
open Go Go.RowKit
theorem L8 (x:cZ):(Tryz.prog.info? 90).map (·.size)=some x.cells.size:=by kernel_rfl
theorem UE (x:cZ):x.cells[0]? =some (.string x.e.name):=rfl
theorem lD:(Tryz.prog.info? 67).map (·.size)=some iE.size:=by kernel_rfl
theorem uX:iE.all (·.oneCell')=true:=by kernel_rfl
attribute [local go_sem] UE bC
set_option maxRecDepth 10000 in
set_option maxHeartbeats 1000000 in
theorem KE (x:cZ) (nb:Nat) (name:ByteArray) (w:World) (hb:nb<w.heap.size) (hc:w.cell? ⟨nb,0,none⟩=some (.string name)):
  Calls Tryz.prog 41 #[.agg x.cells,pt nb] w (Gives (.bool (x.e.name.toList==name.toList)) w):=by
 have HB:=ae (ag w (.cells x.cells 90))
 have hc2:=(HB.out.cell (p:=⟨nb,0,none⟩) hb).trans hc
 have hr:=(Row.new w x.cells 90).2 0
 go_enter Tryz.func41,Tryz.ntmps41
 go_wp2_with fail
 go_ret
 exact ⟨rfl,HB.out⟩
def Ag (a b:ByteArray):Bool:=a.toList==b.toList
def IxP (w:World) (zs:List cZ) (name:ByteArray) (e:Ending) (w':World):Prop:=
 ∃v,e= .returned (I v)∧Below w.heap.size w w'∧((v= -1∧∀(j:Nat) (y:cZ),zs[j]? =some y→Ag y.e.name name=false)∨∃(i:Nat) (x:cZ),v=(i:Int)∧zs[i]? =some x∧Ag x.e.name name=true∧∀(j:Nat) (y:cZ),j<i→zs[j]? =some y→Ag y.e.name name=false)
def IxRel (w:World) (zs:List cZ) (name:ByteArray) (n:Nat) (i:Value) (wr:World):Prop:=∃k:Nat,k≤n∧i= .int .i64 k∧(∀(j:Nat) (y:cZ),j<k→zs[j]? =some y→Ag y.e.name name=false)∧Below w.heap.size w wr
set_option maxRecDepth 10000 in
set_option maxHeartbeats 2000000 in
theorem JC (A:Option Addr) (c n:Nat) (zs:List cZ) (nb:Nat) (name:ByteArray) (w:World) (hn:zs.length=n) (hn1:n≤100000) (h:az w w.heap.size A (aQ zs)) (hb:nb<w.heap.size) (hc:w.cell? ⟨nb,0,none⟩=some (.string name)):
  Calls Tryz.prog 40 #[.slice A n c, .func (.func 41) #[] #[pt nb]] w (IxP w zs name):=by
 have HN:=ae hn
 have HC:=ae h
 clear hn h
 go_enter Tryz.func40,Tryz.ntmps40
 go_wp2_with fail
 go_loopw [8] (fun i wr=>IxRel w zs name n i wr) (fun i _=>n - (intOf i).toNat)
 case atStart=>exact ⟨0,Nat.zero_le _,rfl,fun j y hj=>absurd hj (Nat.not_lt_zero _),Below.refl _ _⟩
 case round=>
  obtain ⟨k,hk,rfl,hall,hbl⟩:=hrel
  have kP:=ae hall
  have HB:=ae hbl
  clear hall hbl
  by_cases hlt:k<n
  ·have hkl:k<zs.length:=by rw [HN.out];exact hlt
   obtain ⟨x,hx⟩:∃x,zs[k]? =some x:=⟨_,List.getElem?_eq_getElem hkl⟩
   obtain ⟨b,off,rfl,hbw,hcl⟩:=HC.out.there (by rw [dO];omega)
   have HX:=ae hx
   have KI:Hid (wr.rangeAt b (off+k*9) x.cells.toList):=ae fun j u hu=>by
    have hj:j<9:=(List.getElem?_eq_some_iff.1 hu).1
    rw [Nat.add_assoc]
    refine (HB.out.cell (p:=⟨b,off+(k*9+j),none⟩) hbw).trans (hcl _ u ?_)
    rw [kM zs k j x hx hj]
    simpa using hu
   have hlt2:nb<wr.heap.size:=Nat.lt_of_lt_of_le hb HB.out.size
   have hc2:wr.cell? ⟨nb,0,none⟩=some (.string name):=(HB.out.cell (p:=⟨nb,0,none⟩) hb).trans hc
   have HZ:=ae (KE x nb name wr hlt2 hc2)
   have i0:(0:Int)≤(k:Int):=by omega
   have i1:(k:Int)<(n:Int):=by omega
   clear hkl hx hcl hlt2 hc2
   cases hq:Ag x.e.name name
   ·have HQ:=ae hq
    clear hq
    go_wp2_with ((with_reducible refine dG 90 ?_);refine wpList_load_mid rfl _ _ rfl b (off+k*9) rfl x.cells.toList _ KI.out Tryz.underlying90 rfl (L8 x) ?_)
    refine HZ.out.mono ?_
    rintro e w2 ⟨rfl,hb2⟩
    rw [show (x.e.name.toList==name.toList)=false from HQ.out]
    have HB2:=ae (ah HB.out hb2)
    clear hb2
    go_wp2_with fail
    go_roundw
    case rel=>
     refine ⟨k+1,by omega,by go_num,fun j y hj hy=>?_,HB2.out⟩
     by_cases e:j=k
     ·subst e
      have h1:=HX.out
      rw [hy] at h1
      injection h1 with h1
      rw [h1]
      exact HQ.out
     ·exact kP.out j y (by omega) hy
    case measure=>simp [intOf];omega
   ·have HQ:=ae hq
    clear hq
    go_wp2_with ((with_reducible refine dG 90 ?_);refine wpList_load_mid rfl _ _ rfl b (off+k*9) rfl x.cells.toList _ KI.out Tryz.underlying90 rfl (L8 x) ?_)
    refine HZ.out.mono ?_
    rintro e w2 ⟨rfl,hb2⟩
    rw [show (x.e.name.toList==name.toList)=true from HQ.out]
    have HB2:=ae (ah HB.out hb2)
    clear hb2
    go_wp2_with fail
    go_ret
    exact ⟨_,rfl,HB2.out, .inr ⟨k,x,rfl,HX.out,HQ.out,kP.out⟩⟩
  ·have hke:k=n:=by omega
   have BD:=ae hke
   have hnl:¬(k:Int)<(n:Int):=by omega
   clear hke hlt
   go_wp2_with fail
   go_ret
   exact ⟨_,rfl,HB.out, .inl ⟨rfl,fun j y hy=>kP.out j y (by have h1:=(List.getElem?_eq_some_iff.1 hy).1;have:=HN.out;have:=BD.out;omega) hy⟩⟩
def qU (zs:List Ze) (name:ByteArray):Option Zn:=(zs.find? fun e=>Ag e.name name).map (·.z)
theorem KA {zs:List cZ} {i:Nat} {x:cZ} {name:ByteArray} (hx:zs[i]? =some x) (h:Ag x.e.name name=true) (hall:∀(j:Nat) (y:cZ),j<i→zs[j]? =some y→Ag y.e.name name=false):qU (zs.map (·.e)) name=some x.e.z:=by
 induction zs generalizing i with
 |nil=>cases hx
 |cons y zs ih=>
  unfold qU
  rw [List.map_cons,List.find?_cons]
  cases i with
  |zero=>
   injection hx with hx
   subst hx
   rw [h]
   rfl
  |succ i=>
   rw [hall 0 y (Nat.succ_pos _) rfl]
   exact ih (i:=i) hx fun j z hj hz=>hall (j+1) z (by omega) hz
theorem Kz {zs:List cZ} {name:ByteArray} (hall:∀(j:Nat) (y:cZ),zs[j]? =some y→Ag y.e.name name=false):qU (zs.map (·.e)) name=none:=by
 induction zs with
 |nil=>rfl
 |cons y zs ih=>
  unfold qU
  rw [List.map_cons,List.find?_cons,hall 0 y rfl]
  exact ih fun j z hz=>hall (j+1) z hz
def Vm (w:World) (zs:List Ze) (name:ByteArray) (e:Ending) (w':World):Prop:=
 Below w.heap.size w w'∧((qU zs name=none∧e= .returned (.tuple #[.agg iE,I 4]))∨∃z s,qU zs name=some z∧e= .returned (.tuple #[.agg (ay z s),I 0])∧Oy w.heap.size w' s z∧∃e∈zs,e.z=z)
structure Vl (w:World) (cs:Array Value) (name:ByteArray) (W:World):Prop where
 tab:W.heap[w.heap.size]? =some (.cells cs 37 (0,0))
 nm:W.heap[w.heap.size+1]? =some (.cells #[.string name] 9 (0,0))
 res:W.heap[w.heap.size+2]? =some (.cells iE 67 (0,0))
 up:Below w.heap.size w W
theorem Vl.start (w:World) (cs:Array Value) (name:ByteArray):Vl w cs name (((w.alloc (.cells cs 37)).alloc (.cells #[.string name] 9)).alloc (.cells iE 67)):=by
 refine ⟨(Below.heap_alloc _ _ _ (by simp;omega)).trans (heap_alloc2_old w _ _),?_,?_,ah (ah (ag w _) (ag _ _)) (ag _ _)⟩
 ·exact (Below.heap_alloc _ _ _ (by simp)).trans (heap_alloc2_new w _ _)
 ·have h:=heap_alloc_last ((w.alloc (.cells cs 37)).alloc (.cells #[.string name] 9)) (.cells iE 67)
  rw [World.size_alloc,World.size_alloc] at h
  exact h
theorem Vl.lt {w W:World} {cs:Array Value} {name:ByteArray} (h:Vl w cs name W):w.heap.size+2<W.heap.size:=(Array.getElem?_eq_some_iff.1 h.res).1
theorem Vl.grow {w W W':World} {cs:Array Value} {name:ByteArray} (h:Vl w cs name W) (hb:Below W.heap.size W W'):Vl w cs name W':=by
 have hl:=h.lt
 exact ⟨(hb.block _ (by omega)).trans h.tab,(hb.block _ (by omega)).trans h.nm,(hb.block _ hl).trans h.res,ah h.up hb⟩
set_option maxRecDepth 10000 in
set_option maxHeartbeats 2000000 in
theorem Ic (x:di) (n:Nat) (name:ByteArray) (w:World) (hn:x.zs.length=n) (hn1:n≤1000) (hl:∀y∈x.zs,oK y.e.z) (h:jF w w.heap.size x):
  Calls Tryz.prog 24 #[.agg (ai x.t (.slice x.A n x.c)), .string name] w (Vm w x.t.aS name):=by
 have HV:=ae (Vl.start w (ai x.t (.slice x.A n x.c)) name)
 have HN:=ae hn
 have HL:=ae hl
 have HT:=ae h
 clear hn hl h
 go_enter Tryz.func24,Tryz.ntmps24
 go_wp2_with (with_reducible refine bP 67 ?_;refine bW rfl _ rfl iE (by kernel_rfl) ?_)
 generalize ((w.alloc (.cells (ai x.t (.slice x.A n x.c)) 37)).alloc (.cells #[.string name] 9)).alloc (.cells iE 67)=W1 at HV ⊢
 have hlt:=HV.out.lt
 refine (show Calls Tryz.prog _ _ W1 _ from JC x.A x.c n x.zs (w.heap.size+1) name W1 HN.out (by omega) ((HT.out.aS.row.keep HV.out.up).more HV.out.up.size) (by omega) (cell_of_row W1 _ 0 _ _ _ HV.out.nm)).mono ?_
 rintro e w2 ⟨v,rfl,hb2,hv⟩
 have nK:=ae (HV.out.grow hb2)
 clear hb2 hlt
 rcases hv with ⟨rfl,hno⟩|⟨i,y,rfl,hy,hyes,hall⟩
 ·have Sr:=ae (Kz hno)
  clear hno
  go_wp2_with (first
   |((with_reducible refine iw 67 ?_);refine bY rfl _ rfl iE (by kernel_rfl) ?_)
   |((with_reducible refine bH 67 ?_);refine wpList_store_row rfl _ _ _ rfl (w.heap.size+2) iE rfl rfl 67 iE nK.out.res lD rfl uX ?_))
  refine bodyPost_ret (v:= .tuple #[.agg iE,I 4]) (bK rfl _ _ (w.heap.size+2) _ iE (0,0) _ rfl (setRow_heap _ _ _ _ _ _ nK.out.res) Tryz.underlying67 rfl lD _ rfl) rfl ?_
  exact ⟨below_setRow nK.out.up (by omega) _, .inl ⟨by rw [HT.out.names];exact Sr.out,rfl⟩⟩
 ·have HF:=ae (KA hy hyes hall)
  have hym:=List.mem_of_getElem? hy
  have HLY:=ae (HL.out y hym)
  have CG:=ae hym
  have YD:Hid (jb w2 w2.heap.size y.s y.e.z):=ae ((HT.out.aS.each y hym).grow nK.out.up)
  have hin:i<n:=by have h1:=(List.getElem?_eq_some_iff.1 hy).1;have:=HN.out;omega
  obtain ⟨A0,hA0⟩:∃a,x.A=a:=⟨_,rfl⟩
  obtain ⟨b,off,hab,hbw,hcl⟩:=HT.out.aS.row.there (by rw [dO];have:=HN.out;omega)
  have KI:Hid (w2.rangeAt b (off+i*9+1) (ay y.e.z y.s).toList):=ae fun j u hu=>by
   have hj:j<8:=(List.getElem?_eq_some_iff.1 hu).1
   rw [show off+i*9+1+j=off+(i*9+(j+1)) by omega]
   refine (nK.out.up.cell (p:=⟨b,off+(i*9+(j+1)),none⟩) hbw).trans (hcl _ u ?_)
   rw [kM x.zs i (j+1) y hy (by omega)]
   have e:y.cells[j+1]? =(ay y.e.z y.s).toList[j]? :=by
    match j,hj with
    |0,_=>rfl
    |1,_=>rfl
    |2,_=>rfl
    |3,_=>rfl
    |4,_=>rfl
    |5,_=>rfl
    |6,_=>rfl
    |7,_=>rfl
   rw [e]
   exact hu
  have c3:w2.cell? ⟨w.heap.size,3,none⟩=some (.slice (some ⟨b,off,none⟩) n x.c):=by rw [cell_of_row w2 _ 3 _ _ _ nK.out.tab,bC,hab]
  have i0:(0:Int)≤(i:Int):=by omega
  have i1:(i:Int)<(n:Int):=by omega
  clear hy hyes hall hym hcl hab hA0
  go_wp2_with ((with_reducible refine dG 67 ?_);refine wpList_load_mid rfl _ _ rfl b (off+i*9+1) rfl (ay y.e.z y.s).toList _ KI.out Tryz.underlying67 rfl (lC _ _) ?_)
  refine (show Calls Tryz.prog _ #[.agg (ay y.e.z y.s)] w2 _ from rZ y.e.z y.s w2 HLY.out YD.out).mono ?_
  rintro e w3 ⟨s3,rfl,hx3,hb3⟩
  have uZ:=ae (nK.out.grow hb3)
  have wE:=ae hx3
  have hl2:=nK.out.lt
  clear hx3 hb3
  go_wp2_with ((with_reducible refine bH 67 ?_);refine wpList_store_row rfl _ _ _ rfl (w.heap.size+2) (ay y.e.z s3) rfl rfl 67 iE uZ.out.res (lC _ _) rfl (Bh _ _) ?_)
  refine bodyPost_ret (v:= .tuple #[.agg (ay y.e.z s3),I 0]) (bK rfl _ _ (w.heap.size+2) _ (ay y.e.z s3) (0,0) _ rfl (setRow_heap _ _ _ _ _ _ uZ.out.res) Tryz.underlying67 rfl (lC _ _) _ rfl) rfl ?_
  refine ⟨below_setRow uZ.out.up (by omega) _, .inr ⟨y.e.z,s3,by rw [HT.out.names];exact HF.out,rfl,?_,y.e,by rw [HT.out.names];exact List.mem_map_of_mem CG.out,rfl⟩⟩
  exact (wE.out.own.aP (by simp [World.setRow]) fun k h1 _=>setRow_other _ _ k _ (by omega)).lower (by omega)
end Go.Proofs.YtdibbemgpikgjaaGreatDoor
namespace Go.Proofs.YtdibbemgpikgjaaGreatDoor
open Go Go.RowKit
theorem jv {P:Program} {fn:Func} {p u v:Tmp} {ty:TypeId} (h:fn.results= #[.cell p ty, .tmp u, .tmp v]) (tmps:Array Value) (w:World) (g:Nat) (t:TypeId) (cs:Array Value) (fr:Nat×Nat) (d:TypeDesc)
  (hp:tmps.getD p undef= .pointer (some ⟨g,0,none⟩)) (hg:w.heap[g]? =some (.cells cs t fr))
  (hu:P.underlying ty=some d) (hd:(match d with| .struct _| .array _ _=>true|_=>false)=true) (hi:(P.info? ty).map (·.size)=some cs.size) (v1 v2:Value) (hv1:tmps.getD u undef=v1) (hv2:tmps.getD v undef=v2):
  (results fn tmps).run P w= .ok (.tuple #[.agg cs,v1,v2]) w:=by
 have hp':tmps[p]?.getD undef= .pointer (some ⟨g,0,none⟩):=by simpa using hp
 have hv1':tmps[u]?.getD undef=v1:=by simpa using hv1
 have hv2':tmps[v]?.getD undef=v2:=by simpa using hv2
 simp [results,h,hp',asAddr,run_loadVar_row w g t ty cs fr d hg hu hd hi,hv1',hv2']
structure zk where
 A:Option Addr
 c:Nat
 ts:List di
def zk.cell (x:zk):Value:= .slice x.A x.ts.length x.c
structure zl (w:World) (B:Nat) (A:Option Addr) (cs:List zk):Prop where
 row:az w B A (cs.map zk.cell)
 each:∀x∈cs,gW w B x.A x.ts
theorem zl.keep {w w':World} {B:Nat} {A:Option Addr} {cs:List zk} (h:zl w B A cs) (hb:Below B w w'):zl w' B A cs:=⟨h.row.keep hb,fun x hx=>(h.each x hx).keep hb⟩
theorem zl.more {w:World} {B B':Nat} {A:Option Addr} {cs:List zk} (h:zl w B A cs) (hB:B≤B'):zl w B' A cs:=⟨h.row.more hB,fun x hx=>(h.each x hx).more hB⟩
theorem zl.grow {w w':World} {A:Option Addr} {cs:List zk} (h:zl w w.heap.size A cs) (hb:Below w.heap.size w w'):zl w' w'.heap.size A cs:=(h.keep hb).more hb.size
def UN (cs:List zk):Prop:=∀x∈cs,x.ts.length≤1000∧xx x.ts
def pick (ts:List di) (name:ByteArray):Option Zn:=if (uI ts).2=true∧0≤(uI ts).1 then (ts[(uI ts).1.toNat]?).bind fun x=>qU x.t.aS name else none
def pk (cs:List zk) (name:ByteArray) (k:Int):Option Zn:=(cs[k.toNat]?).bind fun c=>pick c.ts name
def O6 (w:World) (cs:List zk) (zs:List Int) (name:ByteArray) (e:Ending) (w':World):Prop:=
 Below w.heap.size w w'∧(((∃k∈zs,¬(0≤k∧k<(cs.length:Int)))∧e= .returned (.tuple #[.agg iE,I 0,I 1]))∨
  ((∀k∈zs,0≤k∧k<(cs.length:Int))∧(((∀k∈zs,pk cs name k=none)∧e= .returned (.tuple #[.agg iE,I 0,I 4]))∨
   ∃(j:Nat) (k:Int) (z:Zn) (s:Zs),zs[j]? =some k∧pk cs name k=some z∧(∀(i:Nat) (k':Int),i<j→zs[i]? =some k'→pk cs name k'=none)∧e= .returned (.tuple #[.agg (ay z s),I k,I 0])∧Oy w.heap.size w' s z∧oK z)))
structure Vf (w W:World):Prop where
 res:W.heap[w.heap.size]? =some (.cells iE 67 (0,0))
 up:Below w.heap.size w W
theorem Vf.grow {w W W':World} (h:Vf w W) (hb:Below W.heap.size W W'):Vf w W':=⟨(hb.block _ (Array.getElem?_eq_some_iff.1 h.res).1).trans h.res,ah h.up hb⟩
theorem Vf.lt {w W:World} (h:Vf w W):w.heap.size<W.heap.size:=(Array.getElem?_eq_some_iff.1 h.res).1
def Pr1 (w:World) (zs:List Int) (m o:Nat) (i:Value) (wr:World):Prop:=∃k:Nat,k≤o∧i= .int .i64 k∧(∀(j:Nat) (y:Int),j<k→zs[j]? =some y→0≤y∧y<(m:Int))∧Vf w wr
def Pr2 (w:World) (cs:List zk) (zs:List Int) (name:ByteArray) (o:Nat) (i:Value) (wr:World):Prop:=∃k:Nat,k≤o∧i= .int .i64 k∧(∀(j:Nat) (y:Int),j<k→zs[j]? =some y→pk cs name y=none)∧Vf w wr
theorem LD {cs:List zk} {name:ByteArray} {k:Int} {c:zk} {p:Int} {b:Bool} (hc:cs[k.toNat]? =some c) (hp:uI c.ts=(p,b)) (h:¬(b=true∧0≤p)):pk cs name k=none:=by
 unfold pk pick
 rw [hc,Option.bind_some,hp,if_neg h]
theorem pk_at {cs:List zk} {name:ByteArray} {k:Int} {c:zk} {i:Nat} {x:di} (hc:cs[k.toNat]? =some c) (hp:uI c.ts=((i:Int),true)) (hx:c.ts[i]? =some x):pk cs name k=qU x.t.aS name:=by
 unfold pk pick
 rw [hc,Option.bind_some,hp,if_pos ⟨rfl,by show (0:Int)≤(i:Int);omega⟩]
 show (c.ts[((i:Int)).toNat]?).bind _=_
 rw [Int.toNat_natCast,hx]
 rfl
set_option maxRecDepth 10000 in
set_option maxHeartbeats 4000000 in
theorem Am (A O:Option Addr) (c oc m o:Nat) (cs:List zk) (zs:List Int) (name:ByteArray) (w:World) (hm:cs.length=m) (hm1:m≤1000) (ho:zs.length=o) (ho1:o≤1000) (hl:UN cs) (h:zl w w.heap.size A cs) (hO:dY w w.heap.size O zs):
  Calls Tryz.prog 23 #[.slice A m c, .slice O o oc, .string name] w (O6 w cs zs name):=by
 have HV:Hid (Vf w (w.alloc (.cells iE 67))):=ae ⟨heap_alloc_last w _,ag w _⟩
 have HM:=ae hm
 have HO:=ae ho
 have HL:=ae hl
 have HC:=ae h
 have HI:=ae hO
 clear hm ho hl h hO
 go_enter Tryz.func23,Tryz.ntmps23
 go_wp2_with (with_reducible refine bP 67 ?_;refine bW rfl _ rfl iE (by kernel_rfl) ?_)
 go_loopw [19] (fun i wr=>Pr1 w zs m o i wr) (fun i _=>o - (intOf i).toNat)
 case atStart=>exact ⟨0,Nat.zero_le _,rfl,fun j y hj=>absurd hj (Nat.not_lt_zero _),HV.out⟩
 case round=>
  obtain ⟨k,hk,rfl,hall,hv⟩:=hrel
  have kP:=ae hall
  have qj:=ae hv
  clear hall hv HV
  by_cases hlt:k<o
  ·have hkl:k<zs.length:=by rw [HO.out];exact hlt
   obtain ⟨y,hy⟩:∃y,zs[k]? =some y:=⟨_,List.getElem?_eq_getElem hkl⟩
   obtain ⟨b,off,rfl,hbw,hcl⟩:∃b off,O=some ⟨b,off,none⟩∧b<w.heap.size∧∀j,j<zs.length→w.cell? ⟨b,off+j,none⟩=some (I (zs[j]?.getD 0)):=by
    rcases HI.out with h|h
    ·omega
    ·exact h
   have c0:wr.cell? ⟨b,off+k,none⟩=some (I y):=by rw [qj.out.up.cell (p:=⟨b,off+k,none⟩) hbw,hcl k hkl,hy];rfl
   have HY:=ae hy
   have i0:(0:Int)≤(k:Int):=by omega
   have i1:(k:Int)<(o:Int):=by omega
   clear hkl hcl hy
   by_cases zX:0≤y∧y<(m:Int)
   ·obtain ⟨hy0,hy1⟩:=zX
    have q0:¬y<0:=by omega
    have q1:¬(m:Int)≤y:=by omega
    go_wp2_with fail
    go_roundw
    case rel=>
     refine ⟨k+1,by omega,by go_num,fun j y' hj hy'=>?_,qj.out⟩
     by_cases e:j=k
     ·subst e
      have h1:=HY.out
      rw [hy'] at h1
      injection h1 with h1
      omega
     ·exact kP.out j y' (by omega) hy'
    case measure=>simp [intOf];omega
   ·have HBAD:Hid (∃k∈zs,¬(0≤k∧k<(cs.length:Int))):=ae ⟨y,List.mem_of_getElem? HY.out,by rw [HM.out];exact zX⟩
    by_cases q0:y<0
    ·clear zX
     go_wp2_with (first
      |((with_reducible refine iw 67 ?_);refine bY rfl _ rfl iE (by kernel_rfl) ?_)
      |((with_reducible refine bH 67 ?_);refine wpList_store_row rfl _ _ _ rfl w.heap.size iE rfl rfl 67 iE qj.out.res lD rfl uX ?_))
     refine bodyPost_ret (v:= .tuple #[.agg iE,I 0,I 1]) (jv rfl _ _ w.heap.size _ iE (0,0) _ rfl (setRow_heap _ _ _ _ _ _ qj.out.res) Tryz.underlying67 rfl lD _ _ rfl rfl) rfl ?_
     exact ⟨below_setRow qj.out.up (Nat.le_refl _) _, .inl ⟨HBAD.out,rfl⟩⟩
    ·have q1:(m:Int)≤y:=by omega
     clear zX
     go_wp2_with (first
      |((with_reducible refine iw 67 ?_);refine bY rfl _ rfl iE (by kernel_rfl) ?_)
      |((with_reducible refine bH 67 ?_);refine wpList_store_row rfl _ _ _ rfl w.heap.size iE rfl rfl 67 iE qj.out.res lD rfl uX ?_))
     refine bodyPost_ret (v:= .tuple #[.agg iE,I 0,I 1]) (jv rfl _ _ w.heap.size _ iE (0,0) _ rfl (setRow_heap _ _ _ _ _ _ qj.out.res) Tryz.underlying67 rfl lD _ _ rfl rfl) rfl ?_
     exact ⟨below_setRow qj.out.up (Nat.le_refl _) _, .inl ⟨HBAD.out,rfl⟩⟩
  ·have hke:k=o:=by omega
   have OH:Hid (∀k∈zs,0≤k∧k<(cs.length:Int)):=ae fun y hy=>by
    obtain ⟨j,hj⟩:=List.mem_iff_getElem?.1 hy
    have h1:=(List.getElem?_eq_some_iff.1 hj).1
    have h2:=kP.out j y (by have:=HO.out;omega) hj
    rw [HM.out]
    exact h2
   have hnl:¬(k:Int)<(o:Int):=by omega
   clear hke hlt kP
   go_wp2_with fail
   clear hnl
   go_loopw [35] (fun i wr=>Pr2 w cs zs name o i wr) (fun i _=>o - (intOf i).toNat)
   case atStart=>exact ⟨0,Nat.zero_le _,rfl,fun j y hj=>absurd hj (Nat.not_lt_zero _),qj.out⟩
   case round=>
    obtain ⟨q,hq,rfl,hall,hv⟩:=hrel
    have kP:=ae hall
    have nK:=ae hv
    clear hall hv qj
    by_cases hlt:q<o
    ·have hql:q<zs.length:=by rw [HO.out];exact hlt
     obtain ⟨y,hy⟩:∃y,zs[q]? =some y:=⟨_,List.getElem?_eq_getElem hql⟩
     obtain ⟨b,off,rfl,hbw,hcl⟩:∃b off,O=some ⟨b,off,none⟩∧b<w.heap.size∧∀j,j<zs.length→w.cell? ⟨b,off+j,none⟩=some (I (zs[j]?.getD 0)):=by
      rcases HI.out with h|h
      ·omega
      ·exact h
     have c0:wr.cell? ⟨b,off+q,none⟩=some (I y):=by rw [nK.out.up.cell (p:=⟨b,off+q,none⟩) hbw,hcl q hql,hy];rfl
     have zX:=OH.out y (List.mem_of_getElem? hy)
     rw [HM.out] at zX
     obtain ⟨r,rfl⟩:=Int.eq_ofNat_of_zero_le zX.1
     have hrm:r<m:=by omega
     obtain ⟨x,hx⟩:∃x,cs[r]? =some x:=⟨_,List.getElem?_eq_getElem (by rw [HM.out];exact hrm)⟩
     have hxm:=List.mem_of_getElem? hx
     obtain ⟨g,Xn,rfl,hgw,hgl⟩:=HC.out.row.there (by rw [List.length_map,HM.out];omega)
     have c1:wr.cell? ⟨g,Xn+r,none⟩=some (.slice x.A x.ts.length x.c):=by
      rw [nK.out.up.cell (p:=⟨g,Xn+r,none⟩) hgw]
      exact hgl r _ (by rw [List.getElem?_map,hx];rfl)
     have OE:=ae (HC.out.each x hxm)
     have ZQ:=ae (HL.out x hxm)
     have HX:Hid (cs[((r:Nat):Int).toNat]? =some x):=ae hx
     have HY:=ae hy
     have i0:(0:Int)≤(q:Int):=by omega
     have i1:(q:Int)<(o:Int):=by omega
     have r0:(0:Int)≤(r:Int):=by omega
     have r1:(r:Int)<(m:Int):=by omega
     clear hql hcl hy zX hx hxm hgl
     go_wp2_with fail
     refine (show Calls Tryz.prog _ _ wr _ from xJ x.A x.c x.ts.length x.ts wr rfl ZQ.out.1 ((OE.out.keep nK.out.up).more nK.out.up.size)).mono ?_
     rintro e w3 ⟨p,bb,rfl,hp,hb3⟩
     have hrg:=zS hp
     have HP:=ae hp
     have uZ:=ae (nK.out.grow hb3)
     have c1':=(hb3.cell (p:=⟨g,Xn+r,none⟩) (Nat.lt_of_lt_of_le hgw nK.out.up.size)).trans c1
     clear hb3 hp
     have NEXT:Hid (pk cs name (r:Int)=none→∀(j:Nat) (y:Int),j<q+1→zs[j]? =some y→pk cs name y=none):=ae fun h0 j y hj hy=>by
      by_cases e:j=q
      ·subst e
       have h1:=HY.out
       rw [hy] at h1
       injection h1 with h1
       rw [h1]
       exact h0
      ·exact kP.out j y (by omega) hy
     cases bb with
     |false=>
      have Sr:=ae (LD (name:=name) HX.out HP.out (by simp))
      clear hrg
      go_wp2_with fail
      go_roundw
      case rel=>exact ⟨q+1,by omega,by go_num,NEXT.out Sr.out,uZ.out⟩
      case measure=>simp [intOf];omega
     |true=>
      rcases hrg with hneg|⟨i,t,rfl,ht⟩
      ·have Sr:=ae (LD (name:=name) HX.out HP.out (by omega))
       have q2:¬(0:Int)≤p:=by omega
       go_wp2_with fail
       go_roundw
       case rel=>exact ⟨q+1,by omega,by go_num,NEXT.out Sr.out,uZ.out⟩
       case measure=>simp [intOf];omega
      ·have ht:=ht rfl
       have Nc:=List.mem_of_getElem? ht
       have h68:=(OE.out.each t Nc).size
       have hil:i<x.ts.length:=(List.getElem?_eq_some_iff.1 ht).1
       obtain ⟨tb,toff,hta,htw,htab⟩:∃b off,x.A=some ⟨b,off,none⟩∧b<w.heap.size∧mP w b off x.ts:=by
        rcases nC OE.out with h0|h0
        ·omega
        ·exact h0
       have KI:Hid (w3.rangeAt tb (toff+i*68) t.cells):=ae (aO (htab i t ht).1 uZ.out.up htw)
       have eX:Hid ((Tryz.prog.info? 37).map (·.size)=some t.cells.length):=ae (by rw [h68];kernel_rfl)
       have SB:=ae (((OE.out.each t Nc).keep uZ.out.up).more uZ.out.up.size)
       have Si:=ae (ZQ.out.2 t Nc)
       have ZW:=ae (pk_at (name:=name) HX.out HP.out ht)
       have j0:(0:Int)≤(i:Int):=by omega
       obtain ⟨nx,hnx⟩:∃nx,x.ts.length=nx:=⟨_,rfl⟩
       have j1:(i:Int)<(nx:Int):=by omega
       rw [hta,hnx] at c1'
       clear ht Nc h68 hil htab hta hnx c1 c0
       go_wp2_with ((with_reducible refine dG 37 ?_);refine wpList_load_mid rfl _ _ rfl tb (toff+i*68) rfl t.cells _ KI.out Tryz.underlying37 rfl eX.out ?_)
       refine (show Calls Tryz.prog _ #[.agg t.cells.toArray, .string name] w3 _ from Ic t t.zs.length name w3 rfl Si.out.1 Si.out.2 SB.out).mono ?_
       rintro e w4 ⟨hb4,⟨hno,rfl⟩|⟨z,s,hz,rfl,hzo,ez,hez,rfl⟩⟩
       ·have Sr:Hid (pk cs name (r:Int)=none):=ae (by rw [ZW.out];exact hno)
        have SC:=ae (uZ.out.grow hb4)
        clear hb4 hno
        go_wp2_with (first
         |(with_reducible refine bP 67 ?_;refine bW rfl _ rfl iE (by kernel_rfl) ?_)
         |((with_reducible refine bH 67 ?_);refine dX rfl _ _ _ rfl iE rfl rfl 67 iE rfl lD rfl uX ?_;intro W5 hb5 _ _;have HV5:=ae (SC.out.grow hb5);clear hb5))
        go_roundw
        case rel=>exact ⟨q+1,by omega,by go_num,NEXT.out Sr.out,HV5.out⟩
        case measure=>simp [intOf];omega
       ·have HYES:Hid (pk cs name (r:Int)=some ez.z):=ae (by rw [ZW.out];exact hz)
        have SC:=ae (uZ.out.grow hb4)
        have HZO:=ae hzo
        have hlw:=uZ.out.lt
        have HZL:Hid (oK ez.z):=ae (by
         have h1:=SB.out.names
         rw [h1] at hez
         obtain ⟨v,hv,rfl⟩:=List.mem_map.1 hez
         exact Si.out.2 v hv)
        clear hb4 hzo hz hez
        go_wp2_with (first
         |(with_reducible refine bP 67 ?_;refine bW rfl _ rfl iE (by kernel_rfl) ?_)
         |((with_reducible refine bH 67 ?_);refine dX rfl _ _ _ rfl (ay ez.z s) rfl rfl 67 iE rfl (lC _ _) rfl (Bh _ _) ?_;intro W5 hb5 hl5 tq;have HV5:=ae (SC.out.grow hb5);have l9:=ae tq;have SK:=ae (HZO.out.aP hb5.size fun k _ h2=>hb5.block k h2);clear hb5 hl5 tq)
         |((with_reducible refine dG 67 ?_);refine aU rfl _ _ rfl w4.heap.size rfl (ay ez.z s) l9.out _ Tryz.underlying67 rfl (lC _ _) ?_)
         |((with_reducible refine bH 67 ?_);refine wpList_store_row rfl _ _ _ rfl w.heap.size (ay ez.z s) rfl rfl 67 iE HV5.out.res (lC _ _) rfl (Bh _ _) ?_))
        refine bodyPost_ret (v:= .tuple #[.agg (ay ez.z s),I (r:Int),I 0]) (jv rfl _ _ w.heap.size _ (ay ez.z s) (0,0) _ rfl (setRow_heap _ _ _ _ _ _ HV5.out.res) Tryz.underlying67 rfl (lC _ _) _ _ rfl rfl) rfl ?_
        refine ⟨below_setRow HV5.out.up (Nat.le_refl _) _, .inr ⟨OH.out, .inr ⟨q,(r:Int),ez.z,s,HY.out,HYES.out,kP.out,rfl,?_,HZL.out⟩⟩⟩
        exact (SK.out.aP (by simp [World.setRow]) fun k h1 _=>setRow_other _ _ k _ (by omega)).lower (by omega)
    ·have hqe:q=o:=by omega
     have ZT:Hid (∀k∈zs,pk cs name k=none):=ae fun y hy=>by
      obtain ⟨j,hj⟩:=List.mem_iff_getElem?.1 hy
      have h1:=(List.getElem?_eq_some_iff.1 hj).1
      exact kP.out j y (by have:=HO.out;omega) hj
     have hnl:¬(q:Int)<(o:Int):=by omega
     clear hqe hlt
     go_wp2_with (first
      |((with_reducible refine iw 67 ?_);refine bY rfl _ rfl iE (by kernel_rfl) ?_)
      |((with_reducible refine bH 67 ?_);refine wpList_store_row rfl _ _ _ rfl w.heap.size iE rfl rfl 67 iE nK.out.res lD rfl uX ?_))
     refine bodyPost_ret (v:= .tuple #[.agg iE,I 0,I 4]) (jv rfl _ _ w.heap.size _ iE (0,0) _ rfl (setRow_heap _ _ _ _ _ _ nK.out.res) Tryz.underlying67 rfl lD _ _ rfl rfl) rfl ?_
     exact ⟨below_setRow nK.out.up (Nat.le_refl _) _, .inr ⟨OH.out, .inl ⟨ZT.out,rfl⟩⟩⟩
end Go.Proofs.YtdibbemgpikgjaaGreatDoor
