/- The texts Ph, Pi, Pj, in this order. -/
import Derived.Test.YtbaehbbonkljpaaGreatR00
import Derived.Test.YtbaehbbonkljpaaGreatR09
import Derived.Test.YtbaehbbonkljpaaGreatR10
set_option maxRecDepth 10000
set_option maxHeartbeats 8000000
namespace Go.Proofs.YtbaehbbonkljpaaGreat
open Go Go.RowKit
theorem Oz (x:dB):(Tryz.prog.info? 70).map (·.size)=some x.cells.size:=by kernel_rfl
theorem Yj (x:dB):x.cells[0]? =some (.string x.e.name):=rfl
theorem lG:(Tryz.prog.info? 54).map (·.size)=some iF.size:=by kernel_rfl
theorem vP:iF.all (·.oneCell')=true:=by kernel_rfl
attribute [local go_sem] Yj bC
theorem Na (x:dB) (nb:Nat) (name:ByteArray) (w:World) (hb:nb<w.heap.size) (hc:w.cell? ⟨nb,0,none⟩=some (.string name)):
  Calls Tryz.prog 34 #[.agg x.cells,pt nb] w (Gives (.bool (x.e.name.toList==name.toList)) w):=by
 have HB:=ae (ag w (.cells x.cells 70));have hc2:=(HB.out.cell (p:=⟨nb,0,none⟩) hb).trans hc;have hr:=(Row.new w x.cells 70).2 0;go_enter Tryz.func34,Tryz.ntmps34;go_wp2_with fail;go_ret;exact ⟨rfl,HB.out⟩
def Ba (a b:ByteArray):Bool:=a.toList==b.toList
def IxP (w:World) (zs:List dB) (name:ByteArray) (e:Ending) (w':World):Prop:=
 ∃v,e= .returned (I v)∧Below w.heap.size w w'∧((v= -1∧∀(j:Nat) (y:dB),zs[j]? =some y→Ba y.e.name name=false)∨∃(i:Nat) (x:dB),v=(i:Int)∧zs[i]? =some x∧Ba x.e.name name=true∧∀(j:Nat) (y:dB),j<i→zs[j]? =some y→Ba y.e.name name=false)
def IxRel (w:World) (zs:List dB) (name:ByteArray) (n:Nat) (i:Value) (wr:World):Prop:=∃k:Nat,k≤n∧i= .int .i64 k∧(∀(j:Nat) (y:dB),j<k→zs[j]? =some y→Ba y.e.name name=false)∧Below w.heap.size w wr
theorem Lh (A:Option Addr) (c n:Nat) (zs:List dB) (nb:Nat) (name:ByteArray) (w:World) (hn:zs.length=n) (hn1:n≤100000) (h:az w w.heap.size A (aV zs)) (hb:nb<w.heap.size) (hc:w.cell? ⟨nb,0,none⟩=some (.string name)):
  Calls Tryz.prog 33 #[.slice A n c, .func (.func 34) #[] #[pt nb]] w (IxP w zs name):=by
 have HN:=ae hn;have HC:=ae h;clear hn h;go_enter Tryz.func33,Tryz.ntmps33;go_wp2_with fail
 go_loopw [8] (fun i wr=>IxRel w zs name n i wr) (fun i _=>n - (intOf i).toNat)
 case atStart=>exact ⟨0,Nat.zero_le _,rfl,fun j y hj=>absurd hj (Nat.not_lt_zero _),Below.refl _ _⟩
 case round=>
  obtain ⟨k,hk,rfl,hall,hbl⟩:=hrel;have jo:=ae hall;have HB:=ae hbl;clear hall hbl;by_cases hlt:k<n
  ·have hkl:k<zs.length:=by rw [HN.out];exact hlt
   obtain ⟨x,hx⟩:∃x,zs[k]? =some x:=⟨_,bZ hkl⟩;obtain ⟨b,off,rfl,hbw,hcl⟩:=HC.out.there (by rw [fF];omega);have HX:=ae hx;have Nh:Hid (wr.rangeAt b (off+k*9) x.cells.toList):=ae fun j u hu=>by
    have hj:j<9:=(iT.1 hu).1;rw [Nat.add_assoc];refine (HB.out.cell (p:=⟨b,off+(k*9+j),none⟩) hbw).trans (hcl _ u ?_);rw [oZ zs k j x hx hj];simpa using hu
   have hlt2:nb<wr.heap.size:=dW hb HB.out.size;have hc2:wr.cell? ⟨nb,0,none⟩=some (.string name):=(HB.out.cell (p:=⟨nb,0,none⟩) hb).trans hc;have HZ:=ae (Na x nb name wr hlt2 hc2);have i0:(0:Int)≤(k:Int):=by omega
   have i1:(k:Int)<(n:Int):=by omega
   clear hkl hx hcl hlt2 hc2;cases hq:Ba x.e.name name
   ·have HQ:=ae hq;clear hq;go_wp2_with ((with_reducible refine fU 70 ?_);refine wpList_load_mid rfl _ _ rfl b (off+k*9) rfl x.cells.toList _ Nh.out Tryz.underlying70 rfl (Oz x) ?_);refine HZ.out.mono ?_;rintro e w2 ⟨rfl,hb2⟩;rw [show (x.e.name.toList==name.toList)=false from HQ.out];have HB2:=ae (ai HB.out hb2);clear hb2;go_wp2_with fail;go_roundw
    case rel=>
     refine ⟨k+1,by omega,by go_num,fun j y hj hy=>?_,HB2.out⟩;by_cases e:j=k
     ·subst e;have h1:=HX.out;rw [hy] at h1;injection h1 with h1;rw [h1];exact HQ.out
     ·exact jo.out j y (by omega) hy
    case measure=>simp [intOf];omega
   ·have HQ:=ae hq;clear hq;go_wp2_with ((with_reducible refine fU 70 ?_);refine wpList_load_mid rfl _ _ rfl b (off+k*9) rfl x.cells.toList _ Nh.out Tryz.underlying70 rfl (Oz x) ?_);refine HZ.out.mono ?_;rintro e w2 ⟨rfl,hb2⟩;rw [show (x.e.name.toList==name.toList)=true from HQ.out];have HB2:=ae (ai HB.out hb2);clear hb2;go_wp2_with fail;go_ret;exact ⟨_,rfl,HB2.out, .inr ⟨k,x,rfl,HX.out,HQ.out,jo.out⟩⟩
  ·have hke:k=n:=by omega
   have VX:=ae hke;have hnl:¬(k:Int)<(n:Int):=by omega
   clear hke hlt;go_wp2_with fail;go_ret;exact ⟨_,rfl,HB.out, .inl ⟨rfl,fun j y hy=>jo.out j y (by have h1:=(iT.1 hy).1;have:=HN.out;have:=VX.out;omega) hy⟩⟩
def rD (zs:List Ze) (name:ByteArray):Option Zn:=(zs.find? fun e=>Ba e.name name).map (·.z)
theorem MV {zs:List dB} {i:Nat} {x:dB} {name:ByteArray} (hx:zs[i]? =some x) (h:Ba x.e.name name=true) (hall:∀(j:Nat) (y:dB),j<i→zs[j]? =some y→Ba y.e.name name=false):rD (zs.map (·.e)) name=some x.e.z:=by
 induction zs generalizing i with
 |nil=>cases hx
 |cons y zs ih=>
  unfold rD;rw [List.map_cons,List.find?_cons];cases i with
  |zero=>
   injection hx with hx;subst hx;rw [h];rfl
  |succ i=>
   rw [hall 0 y (Nat.succ_pos _) rfl];exact ih (i:=i) hx fun j z hj hz=>hall (j+1) z (by omega) hz
theorem MS {zs:List dB} {name:ByteArray} (hall:∀(j:Nat) (y:dB),zs[j]? =some y→Ba y.e.name name=false):rD (zs.map (·.e)) name=none:=by
 induction zs with
 |nil=>rfl
 |cons y zs ih=>
  unfold rD;rw [List.map_cons,List.find?_cons,hall 0 y rfl];exact ih fun j z hz=>hall (j+1) z hz
def Zd (w:World) (zs:List Ze) (name:ByteArray) (e:Ending) (w':World):Prop:=
 Below w.heap.size w w'∧((rD zs name=none∧e= .returned (.tuple #[.agg iF,I 4]))∨∃z s,rD zs name=some z∧e= .returned (.tuple #[.agg (au z s),I 0])∧JP w.heap.size w' s z∧∃e∈zs,e.z=z)
structure Zc (w:World) (cs:Array Value) (name:ByteArray) (W:World):Prop where
 tab:W.heap[w.heap.size]? =some (.cells cs 39 (0,0))
 nm:W.heap[w.heap.size+1]? =some (.cells #[.string name] 9 (0,0))
 res:W.heap[w.heap.size+2]? =some (.cells iF 54 (0,0))
 up:Below w.heap.size w W
theorem Zc.start (w:World) (cs:Array Value) (name:ByteArray):Zc w cs name (((w.alloc (.cells cs 39)).alloc (.cells #[.string name] 9)).alloc (.cells iF 54)):=by
 refine ⟨(Below.heap_alloc _ _ _ (by simp;omega)).trans (heap_alloc2_old w _ _),?_,?_,ai (ai (ag w _) (ag _ _)) (ag _ _)⟩
 ·exact (Below.heap_alloc _ _ _ (by simp)).trans (heap_alloc2_new w _ _)
 ·have h:=heap_alloc_last ((w.alloc (.cells cs 39)).alloc (.cells #[.string name] 9)) (.cells iF 54);rw [World.size_alloc,World.size_alloc] at h;exact h
theorem Zc.lt {w W:World} {cs:Array Value} {name:ByteArray} (h:Zc w cs name W):w.heap.size+2<W.heap.size:=(bK.1 h.res).1
theorem Zc.grow {w W W':World} {cs:Array Value} {name:ByteArray} (h:Zc w cs name W) (hb:Below W.heap.size W W'):Zc w cs name W':=by
 have hl:=h.lt;exact ⟨(hb.block _ (by omega)).trans h.tab,(hb.block _ (by omega)).trans h.nm,(hb.block _ hl).trans h.res,ai h.up hb⟩
theorem JB (x:fH) (n:Nat) (name:ByteArray) (w:World) (hn:x.zs.length=n) (hn1:n≤1000) (hl:∀y∈x.zs,ni y.e.z) (h:jB w w.heap.size x):
  Calls Tryz.prog 15 #[.agg (ah x.t (.slice x.A n x.c)), .string name] w (Zd w x.t.aG name):=by
 have HV:=ae (Zc.start w (ah x.t (.slice x.A n x.c)) name);have HN:=ae hn;have HL:=ae hl;have HT:=ae h;clear hn hl h;go_enter Tryz.func15,Tryz.ntmps15;go_wp2_with (with_reducible refine bf 54 ?_;refine dn rfl _ rfl iF (by kernel_rfl) ?_);generalize ((w.alloc (.cells (ah x.t (.slice x.A n x.c)) 39)).alloc (.cells #[.string name] 9)).alloc (.cells iF 54)=W1 at HV ⊢;have hlt:=HV.out.lt;refine (show Calls Tryz.prog _ _ W1 _ from Lh x.A x.c n x.zs (w.heap.size+1) name W1 HN.out (by omega) ((HT.out.aG.row.keep HV.out.up).more HV.out.up.size) (by omega) (cell_of_row W1 _ 0 _ _ _ HV.out.nm)).mono ?_;rintro e w2 ⟨v,rfl,hb2,hv⟩;have jk:=ae (HV.out.grow hb2);clear hb2 hlt;rcases hv with ⟨rfl,hno⟩|⟨i,y,rfl,hy,hyes,hall⟩
 ·have G8:=ae (MS hno);clear hno;go_wp2_with (first
   |((with_reducible refine eu 54 ?_);refine bn rfl _ rfl iF (by kernel_rfl) ?_)
   |((with_reducible refine dF 54 ?_);refine wpList_store_row rfl _ _ _ rfl (w.heap.size+2) iF rfl rfl 54 iF jk.out.res lG rfl vP ?_))
  refine bodyPost_ret (v:= .tuple #[.agg iF,I 4]) (aZ rfl _ _ (w.heap.size+2) _ iF (0,0) _ rfl (setRow_heap _ _ _ _ _ _ jk.out.res) Tryz.underlying54 rfl lG _ rfl) rfl ?_;exact ⟨below_setRow jk.out.up (by omega) _, .inl ⟨by rw [HT.out.names];exact G8.out,rfl⟩⟩
 ·have HF:=ae (MV hy hyes hall);have hym:=gU hy;have HLY:=ae (HL.out y hym);have Wj:=ae hym;have Vx:Hid (jy w2 w2.heap.size y.s y.e.z):=ae ((HT.out.aG.each y hym).grow jk.out.up);have hin:i<n:=by have h1:=(iT.1 hy).1;have:=HN.out;omega
  obtain ⟨A0,hA0⟩:∃a,x.A=a:=⟨_,rfl⟩;obtain ⟨b,off,hab,hbw,hcl⟩:=HT.out.aG.row.there (by rw [fF];have:=HN.out;omega);have Nh:Hid (w2.rangeAt b (off+i*9+1) (au y.e.z y.s).toList):=ae fun j u hu=>by
   have hj:j<8:=(iT.1 hu).1;rw [show off+i*9+1+j=off+(i*9+(j+1)) by omega];refine (jk.out.up.cell (p:=⟨b,off+(i*9+(j+1)),none⟩) hbw).trans (hcl _ u ?_);rw [oZ x.zs i (j+1) y hy (by omega)];have e:y.cells[j+1]? =(au y.e.z y.s).toList[j]? :=by
    match j,hj with
    |0,_=>rfl
    |1,_=>rfl
    |2,_=>rfl
    |3,_=>rfl
    |4,_=>rfl
    |5,_=>rfl
    |6,_=>rfl
    |7,_=>rfl
   rw [e];exact hu
  have c3:w2.cell? ⟨w.heap.size,3,none⟩=some (.slice (some ⟨b,off,none⟩) n x.c):=by rw [cell_of_row w2 _ 3 _ _ _ jk.out.tab,bC,hab]
  have i0:(0:Int)≤(i:Int):=by omega
  have i1:(i:Int)<(n:Int):=by omega
  clear hy hyes hall hym hcl hab hA0;go_wp2_with ((with_reducible refine fU 54 ?_);refine wpList_load_mid rfl _ _ rfl b (off+i*9+1) rfl (au y.e.z y.s).toList _ Nh.out Tryz.underlying54 rfl (lF _ _) ?_);refine (show Calls Tryz.prog _ #[.agg (au y.e.z y.s)] w2 _ from sH y.e.z y.s w2 HLY.out Vx.out).mono ?_;rintro e w3 ⟨s3,rfl,hx3,hb3⟩;have ng:=ae (jk.out.grow hb3);have DT:=ae hx3;have hl2:=jk.out.lt;clear hx3 hb3;go_wp2_with ((with_reducible refine dF 54 ?_);refine wpList_store_row rfl _ _ _ rfl (w.heap.size+2) (au y.e.z s3) rfl rfl 54 iF ng.out.res (lF _ _) rfl (BZ _ _) ?_);refine bodyPost_ret (v:= .tuple #[.agg (au y.e.z s3),I 0]) (aZ rfl _ _ (w.heap.size+2) _ (au y.e.z s3) (0,0) _ rfl (setRow_heap _ _ _ _ _ _ ng.out.res) Tryz.underlying54 rfl (lF _ _) _ rfl) rfl ?_;refine ⟨below_setRow ng.out.up (by omega) _, .inr ⟨y.e.z,s3,by rw [HT.out.names];exact HF.out,rfl,?_,y.e,by rw [HT.out.names];exact List.mem_map_of_mem Wj.out,rfl⟩⟩;exact (DT.out.own.aQ (by simp [World.setRow]) fun k h1 _=>setRow_other _ _ k _ (by omega)).lower (by omega)
end Go.Proofs.YtbaehbbonkljpaaGreat
namespace Go.Proofs.YtbaehbbonkljpaaGreat
open Go Go.RowKit
theorem jP {P:Program} {fn:Func} {p u v:Tmp} {ty:TypeId} (h:fn.results= #[.cell p ty, .tmp u, .tmp v]) (tmps:Array Value) (w:World) (g:Nat) (t:TypeId) (cs:Array Value) (fr:Nat×Nat) (d:TypeDesc)
  (hp:tmps.getD p undef= .pointer (some ⟨g,0,none⟩)) (hg:w.heap[g]? =some (.cells cs t fr))
  (hu:P.underlying ty=some d) (hd:(match d with| .struct _| .array _ _=>true|_=>false)=true) (hi:(P.info? ty).map (·.size)=some cs.size) (v1 v2:Value) (hv1:tmps.getD u undef=v1) (hv2:tmps.getD v undef=v2):
  (results fn tmps).run P w= .ok (.tuple #[.agg cs,v1,v2]) w:=by
 have hp':tmps[p]?.getD undef= .pointer (some ⟨g,0,none⟩):=by simpa using hp
 have hv1':tmps[u]?.getD undef=v1:=by simpa using hv1
 have hv2':tmps[v]?.getD undef=v2:=by simpa using hv2
 simp [results,h,hp',asAddr,run_loadVar_row w g t ty cs fr d hg hu hd hi,hv1',hv2']
structure zL where
 A:Option Addr
 c:Nat
 ts:List fH
def zL.cell (x:zL):Value:= .slice x.A x.ts.length x.c
structure zM (w:World) (B:Nat) (A:Option Addr) (cs:List zL):Prop where
 row:az w B A (cs.map zL.cell)
 each:∀x∈cs,jT w B x.A x.ts
theorem zM.keep {w w':World} {B:Nat} {A:Option Addr} {cs:List zL} (h:zM w B A cs) (hb:Below B w w'):zM w' B A cs:=⟨h.row.keep hb,fun x hx=>(h.each x hx).keep hb⟩
theorem zM.more {w:World} {B B':Nat} {A:Option Addr} {cs:List zL} (h:zM w B A cs) (hB:B≤B'):zM w B' A cs:=⟨h.row.more hB,fun x hx=>(h.each x hx).more hB⟩
theorem zM.grow {w w':World} {A:Option Addr} {cs:List zL} (h:zM w w.heap.size A cs) (hb:Below w.heap.size w w'):zM w' w'.heap.size A cs:=(h.keep hb).more hb.size
def YA (cs:List zL):Prop:=∀x∈cs,x.ts.length≤1000∧xQ x.ts
def pick (ts:List fH) (name:ByteArray):Option Zn:=if (uY ts).2=true∧0≤(uY ts).1 then (ts[(uY ts).1.toNat]?).bind fun x=>rD x.t.aG name else none
def pk (cs:List zL) (name:ByteArray) (k:Int):Option Zn:=(cs[k.toNat]?).bind fun c=>pick c.ts name
def Rh (w:World) (cs:List zL) (zs:List Int) (name:ByteArray) (e:Ending) (w':World):Prop:=
 Below w.heap.size w w'∧(((∃k∈zs,¬(0≤k∧k<(cs.length:Int)))∧e= .returned (.tuple #[.agg iF,I 0,I 1]))∨
  ((∀k∈zs,0≤k∧k<(cs.length:Int))∧(((∀k∈zs,pk cs name k=none)∧e= .returned (.tuple #[.agg iF,I 0,I 4]))∨
   ∃(j:Nat) (k:Int) (z:Zn) (s:Zs),zs[j]? =some k∧pk cs name k=some z∧(∀(i:Nat) (k':Int),i<j→zs[i]? =some k'→pk cs name k'=none)∧e= .returned (.tuple #[.agg (au z s),I k,I 0])∧JP w.heap.size w' s z∧ni z)))
structure Y9 (w W:World):Prop where
 res:W.heap[w.heap.size]? =some (.cells iF 54 (0,0))
 up:Below w.heap.size w W
theorem Y9.grow {w W W':World} (h:Y9 w W) (hb:Below W.heap.size W W'):Y9 w W':=⟨(hb.block _ (bK.1 h.res).1).trans h.res,ai h.up hb⟩
theorem Y9.lt {w W:World} (h:Y9 w W):w.heap.size<W.heap.size:=(bK.1 h.res).1
def Pr1 (w:World) (zs:List Int) (m o:Nat) (i:Value) (wr:World):Prop:=∃k:Nat,k≤o∧i= .int .i64 k∧(∀(j:Nat) (y:Int),j<k→zs[j]? =some y→0≤y∧y<(m:Int))∧Y9 w wr
def Pr2 (w:World) (cs:List zL) (zs:List Int) (name:ByteArray) (o:Nat) (i:Value) (wr:World):Prop:=∃k:Nat,k≤o∧i= .int .i64 k∧(∀(j:Nat) (y:Int),j<k→zs[j]? =some y→pk cs name y=none)∧Y9 w wr
theorem NZ {cs:List zL} {name:ByteArray} {k:Int} {c:zL} {p:Int} {b:Bool} (hc:cs[k.toNat]? =some c) (hp:uY c.ts=(p,b)) (h:¬(b=true∧0≤p)):pk cs name k=none:=by
 unfold pk pick;rw [hc,Option.bind_some,hp,if_neg h]
theorem pk_at {cs:List zL} {name:ByteArray} {k:Int} {c:zL} {i:Nat} {x:fH} (hc:cs[k.toNat]? =some c) (hp:uY c.ts=((i:Int),true)) (hx:c.ts[i]? =some x):pk cs name k=rD x.t.aG name:=by
 unfold pk pick;rw [hc,Option.bind_some,hp,if_pos ⟨rfl,by show (0:Int)≤(i:Int);omega⟩];show (c.ts[((i:Int)).toNat]?).bind _=_;rw [Int.toNat_natCast,hx];rfl
theorem Bj (A O:Option Addr) (c oc m o:Nat) (cs:List zL) (zs:List Int) (name:ByteArray) (w:World) (hm:cs.length=m) (hm1:m≤1000) (ho:zs.length=o) (ho1:o≤1000) (hl:YA cs) (h:zM w w.heap.size A cs) (hO:jU w w.heap.size O zs):
  Calls Tryz.prog 14 #[.slice A m c, .slice O o oc, .string name] w (Rh w cs zs name):=by
 have HV:Hid (Y9 w (w.alloc (.cells iF 54))):=ae ⟨heap_alloc_last w _,ag w _⟩;have HM:=ae hm;have HO:=ae ho;have HL:=ae hl;have HC:=ae h;have HI:=ae hO;clear hm ho hl h hO;go_enter Tryz.func14,Tryz.ntmps14;go_wp2_with (with_reducible refine bf 54 ?_;refine dn rfl _ rfl iF (by kernel_rfl) ?_)
 go_loopw [19] (fun i wr=>Pr1 w zs m o i wr) (fun i _=>o - (intOf i).toNat)
 case atStart=>exact ⟨0,Nat.zero_le _,rfl,fun j y hj=>absurd hj (Nat.not_lt_zero _),HV.out⟩
 case round=>
  obtain ⟨k,hk,rfl,hall,hv⟩:=hrel;have jo:=ae hall;have kS:=ae hv;clear hall hv HV;by_cases hlt:k<o
  ·have hkl:k<zs.length:=by rw [HO.out];exact hlt
   obtain ⟨y,hy⟩:∃y,zs[k]? =some y:=⟨_,bZ hkl⟩;obtain ⟨b,off,rfl,hbw,hcl⟩:∃b off,O=some ⟨b,off,none⟩∧b<w.heap.size∧∀j,j<zs.length→w.cell? ⟨b,off+j,none⟩=some (I (zs[j]?.getD 0)):=by
    rcases HI.out with h|h
    ·omega
    ·exact h
   have c0:wr.cell? ⟨b,off+k,none⟩=some (I y):=by rw [kS.out.up.cell (p:=⟨b,off+k,none⟩) hbw,hcl k hkl,hy];rfl
   have HY:=ae hy;have i0:(0:Int)≤(k:Int):=by omega
   have i1:(k:Int)<(o:Int):=by omega
   clear hkl hcl hy;by_cases Zt:0≤y∧y<(m:Int)
   ·obtain ⟨hy0,hy1⟩:=Zt;have q0:¬y<0:=by omega
    have q1:¬(m:Int)≤y:=by omega
    go_wp2_with fail;go_roundw
    case rel=>
     refine ⟨k+1,by omega,by go_num,fun j y' hj hy'=>?_,kS.out⟩;by_cases e:j=k
     ·subst e;have h1:=HY.out;rw [hy'] at h1;injection h1 with h1;omega
     ·exact jo.out j y' (by omega) hy'
    case measure=>simp [intOf];omega
   ·have HBAD:Hid (∃k∈zs,¬(0≤k∧k<(cs.length:Int))):=ae ⟨y,gU HY.out,by rw [HM.out];exact Zt⟩;by_cases q0:y<0
    ·clear Zt;go_wp2_with (first
      |((with_reducible refine eu 54 ?_);refine bn rfl _ rfl iF (by kernel_rfl) ?_)
      |((with_reducible refine dF 54 ?_);refine wpList_store_row rfl _ _ _ rfl w.heap.size iF rfl rfl 54 iF kS.out.res lG rfl vP ?_))
     refine bodyPost_ret (v:= .tuple #[.agg iF,I 0,I 1]) (jP rfl _ _ w.heap.size _ iF (0,0) _ rfl (setRow_heap _ _ _ _ _ _ kS.out.res) Tryz.underlying54 rfl lG _ _ rfl rfl) rfl ?_;exact ⟨below_setRow kS.out.up (Nat.le_refl _) _, .inl ⟨HBAD.out,rfl⟩⟩
    ·have q1:(m:Int)≤y:=by omega
     clear Zt;go_wp2_with (first
      |((with_reducible refine eu 54 ?_);refine bn rfl _ rfl iF (by kernel_rfl) ?_)
      |((with_reducible refine dF 54 ?_);refine wpList_store_row rfl _ _ _ rfl w.heap.size iF rfl rfl 54 iF kS.out.res lG rfl vP ?_))
     refine bodyPost_ret (v:= .tuple #[.agg iF,I 0,I 1]) (jP rfl _ _ w.heap.size _ iF (0,0) _ rfl (setRow_heap _ _ _ _ _ _ kS.out.res) Tryz.underlying54 rfl lG _ _ rfl rfl) rfl ?_;exact ⟨below_setRow kS.out.up (Nat.le_refl _) _, .inl ⟨HBAD.out,rfl⟩⟩
  ·have hke:k=o:=by omega
   have DJ:Hid (∀k∈zs,0≤k∧k<(cs.length:Int)):=ae fun y hy=>by
    obtain ⟨j,hj⟩:=List.mem_iff_getElem?.1 hy;have h1:=(iT.1 hj).1;have h2:=jo.out j y (by have:=HO.out;omega) hj;rw [HM.out];exact h2
   have hnl:¬(k:Int)<(o:Int):=by omega
   clear hke hlt jo;go_wp2_with fail;clear hnl
   go_loopw [35] (fun i wr=>Pr2 w cs zs name o i wr) (fun i _=>o - (intOf i).toNat)
   case atStart=>exact ⟨0,Nat.zero_le _,rfl,fun j y hj=>absurd hj (Nat.not_lt_zero _),kS.out⟩
   case round=>
    obtain ⟨q,hq,rfl,hall,hv⟩:=hrel;have jo:=ae hall;have jk:=ae hv;clear hall hv kS;by_cases hlt:q<o
    ·have hql:q<zs.length:=by rw [HO.out];exact hlt
     obtain ⟨y,hy⟩:∃y,zs[q]? =some y:=⟨_,bZ hql⟩;obtain ⟨b,off,rfl,hbw,hcl⟩:∃b off,O=some ⟨b,off,none⟩∧b<w.heap.size∧∀j,j<zs.length→w.cell? ⟨b,off+j,none⟩=some (I (zs[j]?.getD 0)):=by
      rcases HI.out with h|h
      ·omega
      ·exact h
     have c0:wr.cell? ⟨b,off+q,none⟩=some (I y):=by rw [jk.out.up.cell (p:=⟨b,off+q,none⟩) hbw,hcl q hql,hy];rfl
     have Zt:=DJ.out y (gU hy);rw [HM.out] at Zt;obtain ⟨r,rfl⟩:=Int.eq_ofNat_of_zero_le Zt.1;have hrm:r<m:=by omega
     obtain ⟨x,hx⟩:∃x,cs[r]? =some x:=⟨_,bZ (by rw [HM.out];exact hrm)⟩;have hxm:=gU hx;obtain ⟨g,goff,rfl,hgw,hgl⟩:=HC.out.row.there (by rw [List.length_map,HM.out];omega);have c1:wr.cell? ⟨g,goff+r,none⟩=some (.slice x.A x.ts.length x.c):=by
      rw [jk.out.up.cell (p:=⟨g,goff+r,none⟩) hgw];exact hgl r _ (by rw [List.getElem?_map,hx];rfl)
     have QP:=ae (HC.out.each x hxm);have HLX:=ae (HL.out x hxm);have HX:Hid (cs[((r:Nat):Int).toNat]? =some x):=ae hx;have HY:=ae hy;have i0:(0:Int)≤(q:Int):=by omega
     have i1:(q:Int)<(o:Int):=by omega
     have r0:(0:Int)≤(r:Int):=by omega
     have r1:(r:Int)<(m:Int):=by omega
     clear hql hcl hy Zt hx hxm hgl;go_wp2_with fail;refine (show Calls Tryz.prog _ _ wr _ from yc x.A x.c x.ts.length x.ts wr rfl HLX.out.1 ((QP.out.keep jk.out.up).more jk.out.up.size)).mono ?_;rintro e w3 ⟨p,bb,rfl,hp,hb3⟩;have hrg:=Au hp;have HP:=ae hp;have ng:=ae (jk.out.grow hb3);have c1':=(hb3.cell (p:=⟨g,goff+r,none⟩) (dW hgw jk.out.up.size)).trans c1;clear hb3 hp;have NEXT:Hid (pk cs name (r:Int)=none→∀(j:Nat) (y:Int),j<q+1→zs[j]? =some y→pk cs name y=none):=ae fun h0 j y hj hy=>by
      by_cases e:j=q
      ·subst e;have h1:=HY.out;rw [hy] at h1;injection h1 with h1;rw [h1];exact h0
      ·exact jo.out j y (by omega) hy
     cases bb with
     |false=>
      have G8:=ae (NZ (name:=name) HX.out HP.out (by simp));clear hrg;go_wp2_with fail;go_roundw
      case rel=>exact ⟨q+1,by omega,by go_num,NEXT.out G8.out,ng.out⟩
      case measure=>simp [intOf];omega
     |true=>
      rcases hrg with hneg|⟨i,t,rfl,ht⟩
      ·have G8:=ae (NZ (name:=name) HX.out HP.out (by omega));have q2:¬(0:Int)≤p:=by omega
       go_wp2_with fail;go_roundw
       case rel=>exact ⟨q+1,by omega,by go_num,NEXT.out G8.out,ng.out⟩
       case measure=>simp [intOf];omega
      ·have ht:=ht rfl;have Ed:=gU ht;have h68:=(QP.out.each t Ed).size;have hil:i<x.ts.length:=(iT.1 ht).1;obtain ⟨tb,toff,hta,htw,htab⟩:∃b off,x.A=some ⟨b,off,none⟩∧b<w.heap.size∧sF w b off x.ts:=by
        rcases zG QP.out with h0|h0
        ·omega
        ·exact h0
       have Nh:Hid (w3.rangeAt tb (toff+i*68) t.cells):=ae (aU (htab i t ht).1 ng.out.up htw);have fG:Hid ((Tryz.prog.info? 39).map (·.size)=some t.cells.length):=ae (by rw [h68];kernel_rfl);have YY:=ae (((QP.out.each t Ed).keep ng.out.up).more ng.out.up.size);have HLT:=ae (HLX.out.2 t Ed);have HPK:=ae (pk_at (name:=name) HX.out HP.out ht);have j0:(0:Int)≤(i:Int):=by omega
       obtain ⟨nx,hnx⟩:∃nx,x.ts.length=nx:=⟨_,rfl⟩;have j1:(i:Int)<(nx:Int):=by omega
       rw [hta,hnx] at c1';clear ht Ed h68 hil htab hta hnx c1 c0;go_wp2_with ((with_reducible refine fU 39 ?_);refine wpList_load_mid rfl _ _ rfl tb (toff+i*68) rfl t.cells _ Nh.out Tryz.underlying39 rfl fG.out ?_);refine (show Calls Tryz.prog _ #[.agg t.cells.toArray, .string name] w3 _ from JB t t.zs.length name w3 rfl HLT.out.1 HLT.out.2 YY.out).mono ?_;rintro e w4 ⟨hb4,⟨hno,rfl⟩|⟨z,s,hz,rfl,Td,ez,hez,rfl⟩⟩
       ·have G8:Hid (pk cs name (r:Int)=none):=ae (by rw [HPK.out];exact hno);have uF:=ae (ng.out.grow hb4);clear hb4 hno;go_wp2_with (first
         |(with_reducible refine bf 54 ?_;refine dn rfl _ rfl iF (by kernel_rfl) ?_)
         |((with_reducible refine dF 54 ?_);refine fP rfl _ _ _ rfl iF rfl rfl 54 iF rfl lG rfl vP ?_;intro W5 hb5 _ _;have HV5:=ae (uF.out.grow hb5);clear hb5))
        go_roundw
        case rel=>exact ⟨q+1,by omega,by go_num,NEXT.out G8.out,HV5.out⟩
        case measure=>simp [intOf];omega
       ·have HYES:Hid (pk cs name (r:Int)=some ez.z):=ae (by rw [HPK.out];exact hz);have uF:=ae (ng.out.grow hb4);have HZO:=ae Td;have QE:=ng.out.lt;have Gx:Hid (ni ez.z):=ae (by
         have h1:=YY.out.names;rw [h1] at hez;obtain ⟨v,hv,rfl⟩:=List.mem_map.1 hez;exact HLT.out.2 v hv)
        clear hb4 Td hz hez;go_wp2_with (first
         |(with_reducible refine bf 54 ?_;refine dn rfl _ rfl iF (by kernel_rfl) ?_)
         |((with_reducible refine dF 54 ?_);refine fP rfl _ _ _ rfl (au ez.z s) rfl rfl 54 iF rfl (lF _ _) rfl (BZ _ _) ?_;intro W5 hb5 hl5 yV;have HV5:=ae (uF.out.grow hb5);have rG:=ae yV;have HZ5:=ae (HZO.out.aQ hb5.size fun k _ h2=>hb5.block k h2);clear hb5 hl5 yV)
         |((with_reducible refine fU 54 ?_);refine aX rfl _ _ rfl w4.heap.size rfl (au ez.z s) rG.out _ Tryz.underlying54 rfl (lF _ _) ?_)
         |((with_reducible refine dF 54 ?_);refine wpList_store_row rfl _ _ _ rfl w.heap.size (au ez.z s) rfl rfl 54 iF HV5.out.res (lF _ _) rfl (BZ _ _) ?_))
        refine bodyPost_ret (v:= .tuple #[.agg (au ez.z s),I (r:Int),I 0]) (jP rfl _ _ w.heap.size _ (au ez.z s) (0,0) _ rfl (setRow_heap _ _ _ _ _ _ HV5.out.res) Tryz.underlying54 rfl (lF _ _) _ _ rfl rfl) rfl ?_;refine ⟨below_setRow HV5.out.up (Nat.le_refl _) _, .inr ⟨DJ.out, .inr ⟨q,(r:Int),ez.z,s,HY.out,HYES.out,jo.out,rfl,?_,Gx.out⟩⟩⟩;exact (HZ5.out.aQ (by simp [World.setRow]) fun k h1 _=>setRow_other _ _ k _ (by omega)).lower (by omega)
    ·have hqe:q=o:=by omega
     have HNONE:Hid (∀k∈zs,pk cs name k=none):=ae fun y hy=>by
      obtain ⟨j,hj⟩:=List.mem_iff_getElem?.1 hy;have h1:=(iT.1 hj).1;exact jo.out j y (by have:=HO.out;omega) hj
     have hnl:¬(q:Int)<(o:Int):=by omega
     clear hqe hlt;go_wp2_with (first
      |((with_reducible refine eu 54 ?_);refine bn rfl _ rfl iF (by kernel_rfl) ?_)
      |((with_reducible refine dF 54 ?_);refine wpList_store_row rfl _ _ _ rfl w.heap.size iF rfl rfl 54 iF jk.out.res lG rfl vP ?_))
     refine bodyPost_ret (v:= .tuple #[.agg iF,I 0,I 4]) (jP rfl _ _ w.heap.size _ iF (0,0) _ rfl (setRow_heap _ _ _ _ _ _ jk.out.res) Tryz.underlying54 rfl lG _ _ rfl rfl) rfl ?_;exact ⟨below_setRow jk.out.up (Nat.le_refl _) _, .inr ⟨DJ.out, .inl ⟨HNONE.out,rfl⟩⟩⟩
theorem neq_lr (a b:Int) (c:Bool) (W:World):(binOp .neq 131 (.agg #[I a,I b, .bool c]) (.agg #[I a,I b, .bool c])).run Tryz.prog W= .ok (.bool false) W:=by simp [go_sem]
theorem neq_tr (a b:Int) (W:World):(binOp .neq 105 (.agg #[I a,I b]) (.agg #[I a,I b])).run Tryz.prog W= .ok (.bool false) W:=by simp [go_sem]
theorem neq_yr (a b c d e:Int) (W:World):(binOp .neq 107 (.agg #[I a,I b,I c,I d,I e]) (.agg #[I a,I b,I c,I d,I e])).run Tryz.prog W= .ok (.bool false) W:=by simp [go_sem]
structure oM (w:World) (t:TypeId) (us vs:Array Value) (W:World):Prop where
 a:Row W w.heap.size us
 b:Row W (w.heap.size+1) vs
 up:Below w.heap.size w W
theorem oM.start (w:World) (t:TypeId) (us vs:Array Value):oM w t us vs ((w.alloc (.cells us t)).alloc (.cells vs t)):=
 ⟨Row.lU (heap_alloc2_old w _ _),Row.lU (heap_alloc2_new w _ _),ai (ag w _) (ag _ _)⟩
theorem oM.drew {w W:World} {t:TypeId} {us vs:Array Value} (h:oM w t us vs W) (q:Nat):oM w t us vs (W.drewN q):=
 ⟨h.a.keep (below_drewN' _ _),h.b.keep (below_drewN' _ _),ai h.up (below_drewN' _ _)⟩
theorem oM.below {w W W':World} {t:TypeId} {us vs:Array Value} (h:oM w t us vs W) (hb:Below W.heap.size W W'):oM w t us vs W':=
 ⟨h.a.keep hb,h.b.keep hb,ai h.up hb⟩
def zY (w:World) (t:TypeId) (us vs:Array Value) (n:Nat) (i:Value) (wr:World):Prop:=∃k:Nat,k≤n∧i= .int .i64 k∧oM w t us vs wr
theorem F5 {w W:World} {A A':Option Addr} {α:Type} {s:Nat} {f:α→List Value} {xs:List α} (hs:∀x∈xs,(f x).length=s) (h:az w w.heap.size A (xs.flatMap f)) (h':az w w.heap.size A' (xs.flatMap f)) (hb:Below w.heap.size w W) (k:Nat) (hk:k<xs.length) (h0:0<s):
  ∃x b off b' off',xs[k]? =some x∧A=some ⟨b,off,none⟩∧A'=some ⟨b',off',none⟩∧W.rangeAt b (off+k*s) (f x)∧W.rangeAt b' (off'+k*s) (f x):=by
 have hl:0<(xs.flatMap f).length:=by rw [cu f xs hs];exact Nat.mul_pos (by omega) h0
 obtain ⟨b,off,e1,hb1,hc1⟩:=h.there hl;obtain ⟨b',off',e2,hb2,hc2⟩:=h'.there hl;have hx:xs[k]? =some xs[k]:=bZ hk;exact ⟨xs[k],b,off,b',off',hx,e1,e2,aU (az.elem hs hc1 k _ hx) hb hb1,aU (az.elem hs hc2 k _ hx) hb hb2⟩
theorem Pv (zs:List Int):zs.map I=zs.flatMap (fun z=> [I z]):=by
 induction zs with
 |nil=>rfl
 |cons z zs ih=>rw [List.map_cons,ih,List.flatMap_cons];rfl
theorem FK (c:Cal) (A1 A2 B1 B2:Option Addr) (a1 a2 b1 b2 n m:Nat) (w:World) (hn:c.aj.length=n) (hm:c.rules.length=m) (hn1:n≤10000) (hmm:m≤10000) (hm1:az w w.heap.size A1 (c.aj.map I)) (hm2:az w w.heap.size A2 (c.aj.map I)) (hr1:az w w.heap.size B1 (c.rules.flatMap Lr.cells)) (hr2:az w w.heap.size B2 (c.rules.flatMap Lr.cells)):
  Calls Tryz.prog 50 #[.agg (aH c A1 a1 B1 b1), .agg (aH c A2 a2 B2 b2)] w (Gives (.bool true) w):=by
 rw [Pv] at hm1 hm2;have HC:Hid (az w w.heap.size A1 (c.aj.flatMap fun z=> [I z])∧az w w.heap.size A2 (c.aj.flatMap fun z=> [I z])∧az w w.heap.size B1 (c.rules.flatMap Lr.cells)∧az w w.heap.size B2 (c.rules.flatMap Lr.cells)):=ae ⟨hm1,hm2,hr1,hr2⟩;have HV:=ae (oM.start w 50 (aH c A1 a1 B1 b1) (aH c A2 a2 B2 b2));clear hm1 hm2 hr1 hr2;have g0:=HV.out.a.2;have g1:=HV.out.b.2;have p0:((w.alloc (.cells (aH c A1 a1 B1 b1) 50)).alloc (.cells (aH c A2 a2 B2 b2) 50)).cell? ⟨w.heap.size,0,none⟩=some (I c.aJ):=g0 0;have p1:((w.alloc (.cells (aH c A1 a1 B1 b1) 50)).alloc (.cells (aH c A2 a2 B2 b2) 50)).cell? ⟨w.heap.size,1,none⟩=some (.slice A1 n a1):=by rw [g0 1,←hn];rfl
 have p2:((w.alloc (.cells (aH c A1 a1 B1 b1) 50)).alloc (.cells (aH c A2 a2 B2 b2) 50)).cell? ⟨w.heap.size,2,none⟩=some (I c.aY):=g0 2;have p3:((w.alloc (.cells (aH c A1 a1 B1 b1) 50)).alloc (.cells (aH c A2 a2 B2 b2) 50)).cell? ⟨w.heap.size,3,none⟩=some (.slice B1 m b1):=by rw [g0 3,←hm];rfl
 have q0:((w.alloc (.cells (aH c A1 a1 B1 b1) 50)).alloc (.cells (aH c A2 a2 B2 b2) 50)).cell? ⟨w.heap.size+1,0,none⟩=some (I c.aJ):=g1 0;have q1:((w.alloc (.cells (aH c A1 a1 B1 b1) 50)).alloc (.cells (aH c A2 a2 B2 b2) 50)).cell? ⟨w.heap.size+1,1,none⟩=some (.slice A2 n a2):=by rw [g1 1,←hn];rfl
 have q2:((w.alloc (.cells (aH c A1 a1 B1 b1) 50)).alloc (.cells (aH c A2 a2 B2 b2) 50)).cell? ⟨w.heap.size+1,2,none⟩=some (I c.aY):=g1 2;have q3:((w.alloc (.cells (aH c A1 a1 B1 b1) 50)).alloc (.cells (aH c A2 a2 B2 b2) 50)).cell? ⟨w.heap.size+1,3,none⟩=some (.slice B2 m b2):=by rw [g1 3,←hm];rfl
 clear g0 g1;go_enter Tryz.func50,Tryz.ntmps50;go_wp2_with fail;clear p0 p1 p2 p3 q0 q1 q2 q3
 go_loopw [5] (fun i wr=>zY w 50 (aH c A1 a1 B1 b1) (aH c A2 a2 B2 b2) n i wr) (fun i _=>n - (intOf i).toNat)
 case atStart=>exact ⟨0,Nat.zero_le _,rfl,HV.out⟩
 case round=>
  obtain ⟨k,hk,rfl,hv⟩:=hrel;have HW:=ae hv;clear hv;by_cases hlt:k<n
  ·obtain ⟨x,ba,oa,bc,oc,hx,e1,e2,hr1,hr2⟩:=F5 (s:=1) (f:=fun z=> [I z]) (xs:=c.aj) (fun _ _=>rfl) HC.out.1 HC.out.2.1 HW.out.up k (by omega) (by omega);have v1:wr.cell? ⟨w.heap.size,1,none⟩=some (.slice (some ⟨ba,oa,none⟩) n a1):=by rw [HW.out.a.2 1,←e1];exact (by rw [←hn];rfl)
   have v2:wr.cell? ⟨w.heap.size+1,1,none⟩=some (.slice (some ⟨bc,oc,none⟩) n a2):=by rw [HW.out.b.2 1,←e2];exact (by rw [←hn];rfl)
   have c0:wr.cell? ⟨ba,oa+k,none⟩=some (I x):=by have h:=hr1 0 _ rfl;rwa [Nat.mul_one] at h
   have d0:wr.cell? ⟨bc,oc+k,none⟩=some (I x):=by have h:=hr2 0 _ rfl;rwa [Nat.mul_one] at h
   have i0:(0:Int)≤(k:Int):=by omega
   have i1:(k:Int)<(n:Int):=by omega
   clear hx e1 e2 hr1 hr2;go_wp2_with fail;go_quiet (fail);go_wp2_with fail;go_roundw
   case rel=>exact ⟨k+1,by omega,by go_num,HW.out.drew _⟩
   case measure=>simp [intOf];omega
  ·have hke:k=n:=by omega
   have hnl:¬(k:Int)<(n:Int):=by omega
   have v1:=HW.out.a.2 1;have u1:wr.cell? ⟨w.heap.size,1,none⟩=some (.slice A1 n a1):=by rw [v1,←hn];rfl
   clear v1 hke hlt;have v3:=HW.out.a.2 3;have u3:wr.cell? ⟨w.heap.size,3,none⟩=some (.slice B1 m b1):=by rw [v3,←hm];rfl
   clear v3;go_wp2_with fail;clear u3 hnl u1
   go_loopw [6] (fun i wr=>zY w 50 (aH c A1 a1 B1 b1) (aH c A2 a2 B2 b2) m i wr) (fun i _=>m - (intOf i).toNat)
   case atStart=>exact ⟨0,Nat.zero_le _,rfl,HW.out⟩
   case round=>
    obtain ⟨k,hk,rfl,hv⟩:=hrel;have HW:=ae hv;clear hv;by_cases hlt:k<m
    ·obtain ⟨x,ba,oa,bc,oc,hx,e1,e2,hr1,hr2⟩:=F5 (s:=3) (f:=Lr.cells) (xs:=c.rules) (fun _ _=>rfl) HC.out.2.2.1 HC.out.2.2.2 HW.out.up k (by omega) (by omega);have v1:wr.cell? ⟨w.heap.size,3,none⟩=some (.slice (some ⟨ba,oa,none⟩) m b1):=by rw [HW.out.a.2 3,←e1];exact (by rw [←hm];rfl)
     have v2:wr.cell? ⟨w.heap.size+1,3,none⟩=some (.slice (some ⟨bc,oc,none⟩) m b2):=by rw [HW.out.b.2 3,←e2];exact (by rw [←hm];rfl)
     have c0:wr.cell? ⟨ba,oa+k*3,none⟩=some (I x.every):=hr1 0 _ rfl;have d0:wr.cell? ⟨bc,oc+k*3,none⟩=some (I x.every):=hr2 0 _ rfl;have c1:wr.cell? ⟨ba,oa+k*3+1,none⟩=some (I x.rest):=hr1 1 _ rfl;have d1:wr.cell? ⟨bc,oc+k*3+1,none⟩=some (I x.rest):=hr2 1 _ rfl;have c2:wr.cell? ⟨ba,oa+k*3+2,none⟩=some (.bool x.yes):=hr1 2 _ rfl;have d2:wr.cell? ⟨bc,oc+k*3+2,none⟩=some (.bool x.yes):=hr2 2 _ rfl;have i0:(0:Int)≤(k:Int):=by omega
     have i1:(k:Int)<(m:Int):=by omega
     have hq:=fun W=>neq_lr x.every x.rest x.yes W;clear hx e1 e2 hr1 hr2;go_wp2_with fail;go_quiet (fail);go_wp2_with fail;go_roundw
     case rel=>exact ⟨k+1,by omega,by go_num,HW.out.drew _⟩
     case measure=>simp [intOf];omega
    ·have hke:k=m:=by omega
     have hnl:¬(k:Int)<(m:Int):=by omega
     have v1:=HW.out.a.2 3;have u1:wr.cell? ⟨w.heap.size,3,none⟩=some (.slice B1 m b1):=by rw [v1,←hm];rfl
     clear v1 hke hlt;go_wp2_with fail;go_ret;exact ⟨rfl,HW.out.up⟩
theorem Dk (z:Zn) (s1 s2:Zs) (n m:Nat) (w:World) (hl:ni z) (hn:z.trans.length=n) (hm:z.ax.length=m) (h1:jy w w.heap.size s1 z) (h2:jy w w.heap.size s2 z):
  Calls Tryz.prog 30 #[.agg (au z s1), .agg (au z s2)] w (Gives (.bool true) w):=by
 have hn1:n≤10000:=by have:=hl.trans;omega
 have hmm:m≤10000:=by have:=hl.ax;omega
 have HC:Hid (jy w w.heap.size s1 z∧jy w w.heap.size s2 z):=ae ⟨h1,h2⟩;have HV:=ae (oM.start w 54 (au z s1) (au z s2));have xg:Hid (Calls Tryz.prog 50 #[.agg #[I z.cal.aJ, .slice s1.A z.cal.aj.length s1.a,I z.cal.aY, .slice s1.B z.cal.rules.length s1.b], .agg #[I z.cal.aJ, .slice s2.A z.cal.aj.length s2.a,I z.cal.aY, .slice s2.B z.cal.rules.length s2.b]] ((w.alloc (.cells (au z s1) 54)).alloc (.cells (au z s2) 54)) (Gives (.bool true) ((w.alloc (.cells (au z s1) 54)).alloc (.cells (au z s2) 54)))):=
  ae (FK z.cal s1.A s2.A s1.B s2.B s1.a s2.a s1.b s2.b _ _ ((w.alloc (.cells (au z s1) 54)).alloc (.cells (au z s2) 54)) rfl rfl hl.aj hl.rules (h1.aj.keep HV.out.up |>.more HV.out.up.size) (h2.aj.keep HV.out.up |>.more HV.out.up.size) (h1.rules.keep HV.out.up |>.more HV.out.up.size) (h2.rules.keep HV.out.up |>.more HV.out.up.size))
 clear h1 h2 hl;have g0:=HV.out.a.2;have g1:=HV.out.b.2;have p0:((w.alloc (.cells (au z s1) 54)).alloc (.cells (au z s2) 54)).cell? ⟨w.heap.size,0,none⟩=some (I z.cal.aJ):=g0 0;have p1:((w.alloc (.cells (au z s1) 54)).alloc (.cells (au z s2) 54)).cell? ⟨w.heap.size,1,none⟩=some (.slice s1.A z.cal.aj.length s1.a):=g0 1;have p2:((w.alloc (.cells (au z s1) 54)).alloc (.cells (au z s2) 54)).cell? ⟨w.heap.size,2,none⟩=some (I z.cal.aY):=g0 2;have p3:((w.alloc (.cells (au z s1) 54)).alloc (.cells (au z s2) 54)).cell? ⟨w.heap.size,3,none⟩=some (.slice s1.B z.cal.rules.length s1.b):=g0 3;have p4:((w.alloc (.cells (au z s1) 54)).alloc (.cells (au z s2) 54)).cell? ⟨w.heap.size,4,none⟩=some (I z.start):=g0 4;have p5:((w.alloc (.cells (au z s1) 54)).alloc (.cells (au z s2) 54)).cell? ⟨w.heap.size,5,none⟩=some (.slice s1.C n s1.c):=by rw [g0 5,←hn];rfl
 have p6:((w.alloc (.cells (au z s1) 54)).alloc (.cells (au z s2) 54)).cell? ⟨w.heap.size,6,none⟩=some (I z.hor):=g0 6;have p7:((w.alloc (.cells (au z s1) 54)).alloc (.cells (au z s2) 54)).cell? ⟨w.heap.size,7,none⟩=some (.slice s1.D m s1.d):=by rw [g0 7,←hm];rfl
 have q0:((w.alloc (.cells (au z s1) 54)).alloc (.cells (au z s2) 54)).cell? ⟨w.heap.size+1,0,none⟩=some (I z.cal.aJ):=g1 0;have q1:((w.alloc (.cells (au z s1) 54)).alloc (.cells (au z s2) 54)).cell? ⟨w.heap.size+1,1,none⟩=some (.slice s2.A z.cal.aj.length s2.a):=g1 1;have q2:((w.alloc (.cells (au z s1) 54)).alloc (.cells (au z s2) 54)).cell? ⟨w.heap.size+1,2,none⟩=some (I z.cal.aY):=g1 2;have q3:((w.alloc (.cells (au z s1) 54)).alloc (.cells (au z s2) 54)).cell? ⟨w.heap.size+1,3,none⟩=some (.slice s2.B z.cal.rules.length s2.b):=g1 3;have q4:((w.alloc (.cells (au z s1) 54)).alloc (.cells (au z s2) 54)).cell? ⟨w.heap.size+1,4,none⟩=some (I z.start):=g1 4;have q5:((w.alloc (.cells (au z s1) 54)).alloc (.cells (au z s2) 54)).cell? ⟨w.heap.size+1,5,none⟩=some (.slice s2.C n s2.c):=by rw [g1 5,←hn];rfl
 have q6:((w.alloc (.cells (au z s1) 54)).alloc (.cells (au z s2) 54)).cell? ⟨w.heap.size+1,6,none⟩=some (I z.hor):=g1 6;have q7:((w.alloc (.cells (au z s1) 54)).alloc (.cells (au z s2) 54)).cell? ⟨w.heap.size+1,7,none⟩=some (.slice s2.D m s2.d):=by rw [g1 7,←hm];rfl
 clear g0 g1;go_enter Tryz.func30,Tryz.ntmps30;go_wp2_with fail;clear p0 p1 p2 p3 p4 p5 p6 p7 q0 q1 q2 q3 q4 q5 q6 q7;refine xg.out.mono ?_;rintro e w2 ⟨rfl,hb2⟩;have jk:=ae (HV.out.below hb2);have t1:w2.cell? ⟨w.heap.size,5,none⟩=some (.slice s1.C n s1.c):=by rw [jk.out.a.2 5,←hn];rfl
 clear hb2 xg HV;go_wp2_with fail;clear t1
 go_loopw [5] (fun i wr=>zY w 54 (au z s1) (au z s2) n i wr) (fun i _=>n - (intOf i).toNat)
 case atStart=>exact ⟨0,Nat.zero_le _,rfl,jk.out⟩
 case round=>
  obtain ⟨k,hk,rfl,hv⟩:=hrel;have HW:=ae hv;clear hv;by_cases hlt:k<n
  ·obtain ⟨x,ba,oa,bc,oc,hx,e1,e2,hr1,hr2⟩:=F5 (s:=2) (f:=Tr.cells) (xs:=z.trans) (fun _ _=>rfl) HC.out.1.trans HC.out.2.trans HW.out.up k (by omega) (by omega);have v1:wr.cell? ⟨w.heap.size,5,none⟩=some (.slice (some ⟨ba,oa,none⟩) n s1.c):=by rw [HW.out.a.2 5,←e1];exact (by rw [←hn];rfl)
   have v2:wr.cell? ⟨w.heap.size+1,5,none⟩=some (.slice (some ⟨bc,oc,none⟩) n s2.c):=by rw [HW.out.b.2 5,←e2];exact (by rw [←hn];rfl)
   have c0:wr.cell? ⟨ba,oa+k*2,none⟩=some (I x.at_):=hr1 0 _ rfl;have d0:wr.cell? ⟨bc,oc+k*2,none⟩=some (I x.at_):=hr2 0 _ rfl;have c1:wr.cell? ⟨ba,oa+k*2+1,none⟩=some (I x.off):=hr1 1 _ rfl;have d1:wr.cell? ⟨bc,oc+k*2+1,none⟩=some (I x.off):=hr2 1 _ rfl;have i0:(0:Int)≤(k:Int):=by omega
   have i1:(k:Int)<(n:Int):=by omega
   have hq:=fun W=>neq_tr x.at_ x.off W;clear hx e1 e2 hr1 hr2;go_wp2_with fail;go_quiet (fail);go_wp2_with fail;go_roundw
   case rel=>exact ⟨k+1,by omega,by go_num,HW.out.drew _⟩
   case measure=>simp [intOf];omega
  ·have hke:k=n:=by omega
   have hnl:¬(k:Int)<(n:Int):=by omega
   have v1:=HW.out.a.2 5;have u1:wr.cell? ⟨w.heap.size,5,none⟩=some (.slice s1.C n s1.c):=by rw [v1,←hn];rfl
   clear v1 hke hlt;have v3:=HW.out.a.2 7;have u3:wr.cell? ⟨w.heap.size,7,none⟩=some (.slice s1.D m s1.d):=by rw [v3,←hm];rfl
   clear v3;go_wp2_with fail;clear u3 hnl u1
   go_loopw [6] (fun i wr=>zY w 54 (au z s1) (au z s2) m i wr) (fun i _=>m - (intOf i).toNat)
   case atStart=>exact ⟨0,Nat.zero_le _,rfl,HW.out⟩
   case round=>
    obtain ⟨k,hk,rfl,hv⟩:=hrel;have HW:=ae hv;clear hv;by_cases hlt:k<m
    ·obtain ⟨x,ba,oa,bc,oc,hx,e1,e2,hr1,hr2⟩:=F5 (s:=5) (f:=Yr.cells) (xs:=z.ax) (fun _ _=>rfl) HC.out.1.ax HC.out.2.ax HW.out.up k (by omega) (by omega);have v1:wr.cell? ⟨w.heap.size,7,none⟩=some (.slice (some ⟨ba,oa,none⟩) m s1.d):=by rw [HW.out.a.2 7,←e1];exact (by rw [←hm];rfl)
     have v2:wr.cell? ⟨w.heap.size+1,7,none⟩=some (.slice (some ⟨bc,oc,none⟩) m s2.d):=by rw [HW.out.b.2 7,←e2];exact (by rw [←hm];rfl)
     have c0:wr.cell? ⟨ba,oa+k*5,none⟩=some (I x.month):=hr1 0 _ rfl;have d0:wr.cell? ⟨bc,oc+k*5,none⟩=some (I x.month):=hr2 0 _ rfl;have c1:wr.cell? ⟨ba,oa+k*5+1,none⟩=some (I x.cZ):=hr1 1 _ rfl;have d1:wr.cell? ⟨bc,oc+k*5+1,none⟩=some (I x.cZ):=hr2 1 _ rfl;have c2:wr.cell? ⟨ba,oa+k*5+2,none⟩=some (I x.dh):=hr1 2 _ rfl;have d2:wr.cell? ⟨bc,oc+k*5+2,none⟩=some (I x.dh):=hr2 2 _ rfl;have c3:wr.cell? ⟨ba,oa+k*5+3,none⟩=some (I x.minute):=hr1 3 _ rfl;have d3:wr.cell? ⟨bc,oc+k*5+3,none⟩=some (I x.minute):=hr2 3 _ rfl;have c4:wr.cell? ⟨ba,oa+k*5+4,none⟩=some (I x.off):=hr1 4 _ rfl;have d4:wr.cell? ⟨bc,oc+k*5+4,none⟩=some (I x.off):=hr2 4 _ rfl;have i0:(0:Int)≤(k:Int):=by omega
     have i1:(k:Int)<(m:Int):=by omega
     have hq:=fun W=>neq_yr x.month x.cZ x.dh x.minute x.off W;clear hx e1 e2 hr1 hr2;go_wp2_with fail;go_quiet (fail);go_wp2_with fail;go_roundw
     case rel=>exact ⟨k+1,by omega,by go_num,HW.out.drew _⟩
     case measure=>simp [intOf];omega
    ·have hke:k=m:=by omega
     have hnl:¬(k:Int)<(m:Int):=by omega
     have v1:=HW.out.a.2 7;have u1:wr.cell? ⟨w.heap.size,7,none⟩=some (.slice s1.D m s1.d):=by rw [v1,←hm];rfl
     clear v1 hke hlt;go_wp2_with fail;go_ret;exact ⟨rfl,HW.out.up⟩
end Go.Proofs.YtbaehbbonkljpaaGreat
