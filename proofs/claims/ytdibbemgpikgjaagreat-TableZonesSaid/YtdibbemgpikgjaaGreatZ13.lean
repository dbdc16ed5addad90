/- The texts Pi, Pj, in this order. -/
import Derived.Test.YtdibbemgpikgjaaGreatZ00
import Derived.Test.YtdibbemgpikgjaaGreatZ09
import Derived.Test.YtdibbemgpikgjaaGreatZ12
set_option maxRecDepth 10000
set_option maxHeartbeats 8000000
namespace Go.Proofs.YtdibbemgpikgjaaGreat
open Go Go.RowKit
theorem jL {P:Program} {fn:Func} {p u v:Tmp} {ty:TypeId} (h:fn.results= #[.cell p ty, .tmp u, .tmp v]) (tmps:Array Value) (w:World) (g:Nat) (t:TypeId) (cs:Array Value) (fr:Nat×Nat) (d:TypeDesc)
  (hp:tmps.getD p undef= .pointer (some ⟨g,0,none⟩)) (hg:w.heap[g]? =some (.cells cs t fr))
  (hu:P.underlying ty=some d) (hd:(match d with| .struct _| .array _ _=>true|_=>false)=true) (hi:(P.info? ty).map (·.size)=some cs.size) (v1 v2:Value) (hv1:tmps.getD u undef=v1) (hv2:tmps.getD v undef=v2):
  (results fn tmps).run P w= .ok (.tuple #[.agg cs,v1,v2]) w:=by
 have hp':tmps[p]?.getD undef= .pointer (some ⟨g,0,none⟩):=by simpa using hp
 have hv1':tmps[u]?.getD undef=v1:=by simpa using hv1
 have hv2':tmps[v]?.getD undef=v2:=by simpa using hv2
 simp [results,h,hp',asAddr,run_loadVar_row w g t ty cs fr d hg hu hd hi,hv1',hv2']
structure zO where
 A:Option Addr
 c:Nat
 ts:List eF
def zO.cell (x:zO):Value:= .slice x.A x.ts.length x.c
structure zS (w:World) (B:Nat) (A:Option Addr) (cs:List zO):Prop where
 row:aB w B A (cs.map zO.cell)
 each:∀x∈cs,jR w B x.A x.ts
theorem zS.keep {w w':World} {B:Nat} {A:Option Addr} {cs:List zO} (h:zS w B A cs) (hb:Below B w w'):zS w' B A cs:=⟨h.row.keep hb,fun x hx=>(h.each x hx).keep hb⟩
theorem zS.more {w:World} {B B':Nat} {A:Option Addr} {cs:List zO} (h:zS w B A cs) (hB:B≤B'):zS w B' A cs:=⟨h.row.more hB,fun x hx=>(h.each x hx).more hB⟩
theorem zS.grow {w w':World} {A:Option Addr} {cs:List zO} (h:zS w w.heap.size A cs) (hb:Below w.heap.size w w'):zS w' w'.heap.size A cs:=(h.keep hb).more hb.size
def VR (cs:List zO):Prop:=∀x∈cs,x.ts.length≤1000∧xZ x.ts
def pick (ts:List eF) (name:ByteArray):Option Zn:=if (uM ts).2=true∧0≤(uM ts).1 then (ts[(uM ts).1.toNat]?).bind fun x=>pJ x.t.aS name else none
def pk (cs:List zO) (name:ByteArray) (k:Int):Option Zn:=(cs[k.toNat]?).bind fun c=>pick c.ts name
def P5 (w:World) (cs:List zO) (zs:List Int) (name:ByteArray) (e:Ending) (w':World):Prop:=
 Below w.heap.size w w'∧(((∃k∈zs,¬(0≤k∧k<(cs.length:Int)))∧e= .returned (.tuple #[.agg iQ,I 0,I 1]))∨
  ((∀k∈zs,0≤k∧k<(cs.length:Int))∧(((∀k∈zs,pk cs name k=none)∧e= .returned (.tuple #[.agg iQ,I 0,I 4]))∨
   ∃(j:Nat) (k:Int) (z:Zn) (s:Zs),zs[j]? =some k∧pk cs name k=some z∧(∀(i:Nat) (k':Int),i<j→zs[i]? =some k'→pk cs name k'=none)∧e= .returned (.tuple #[.agg (aj z s),I k,I 0])∧NJ w.heap.size w' s z∧oQ z)))
structure WG (w W:World):Prop where
 res:W.heap[w.heap.size]? =some (.cells iQ 51 (0,0))
 up:Below w.heap.size w W
theorem WG.grow {w W W':World} (h:WG w W) (hb:Below W.heap.size W W'):WG w W':=⟨(hb.block _ (aZ.1 h.res).1).trans h.res,ah h.up hb⟩
theorem WG.lt {w W:World} (h:WG w W):w.heap.size<W.heap.size:=(aZ.1 h.res).1
def Pr1 (w:World) (zs:List Int) (m o:Nat) (i:Value) (wr:World):Prop:=∃k:Nat,k≤o∧i= .int .i64 k∧(∀(j:Nat) (y:Int),j<k→zs[j]? =some y→0≤y∧y<(m:Int))∧WG w wr
def Pr2 (w:World) (cs:List zO) (zs:List Int) (name:ByteArray) (o:Nat) (i:Value) (wr:World):Prop:=∃k:Nat,k≤o∧i= .int .i64 k∧(∀(j:Nat) (y:Int),j<k→zs[j]? =some y→pk cs name y=none)∧WG w wr
theorem MG {cs:List zO} {name:ByteArray} {k:Int} {c:zO} {p:Int} {b:Bool} (hc:cs[k.toNat]? =some c) (hp:uM c.ts=(p,b)) (h:¬(b=true∧0≤p)):pk cs name k=none:=by
 unfold pk pick;rw [hc,Option.bind_some,hp,if_neg h]
theorem pk_at {cs:List zO} {name:ByteArray} {k:Int} {c:zO} {i:Nat} {x:eF} (hc:cs[k.toNat]? =some c) (hp:uM c.ts=((i:Int),true)) (hx:c.ts[i]? =some x):pk cs name k=pJ x.t.aS name:=by
 unfold pk pick;rw [hc,Option.bind_some,hp,if_pos ⟨rfl,by show (0:Int)≤(i:Int);omega⟩];show (c.ts[((i:Int)).toNat]?).bind _=_;rw [Int.toNat_natCast,hx];rfl
theorem Be (A O:Option Addr) (c oc m o:Nat) (cs:List zO) (zs:List Int) (name:ByteArray) (w:World) (hm:cs.length=m) (hm1:m≤1000) (ho:zs.length=o) (ho1:o≤1000) (hl:VR cs) (h:zS w w.heap.size A cs) (hO:fE w w.heap.size O zs):
  Calls Tryz.prog 17 #[.slice A m c, .slice O o oc, .string name] w (P5 w cs zs name):=by
 have HV:Hid (WG w (w.alloc (.cells iQ 51))):=ae ⟨heap_alloc_last w _,ag w _⟩;have HM:=ae hm;have HO:=ae ho;have HL:=ae hl;have HC:=ae h;have HI:=ae hO;clear hm ho hl h hO;go_enter Tryz.func17,Tryz.ntmps17;go_wp2_with (with_reducible refine bn 51 ?_;refine dh rfl _ rfl iQ (by kernel_rfl) ?_)
 go_loopw [19] (fun i wr=>Pr1 w zs m o i wr) (fun i _=>o - (intOf i).toNat)
 case atStart=>exact ⟨0,Nat.zero_le _,rfl,fun j y hj=>absurd hj (Nat.not_lt_zero _),HV.out⟩
 case round=>
  obtain ⟨k,hk,rfl,hall,hv⟩:=hrel;have kS:=ae hall;have oH:=ae hv;clear hall hv HV;by_cases hlt:k<o
  ·have hkl:k<zs.length:=by rw [HO.out];exact hlt
   obtain ⟨y,hy⟩:∃y,zs[k]? =some y:=⟨_,dE hkl⟩;obtain ⟨b,off,rfl,hbw,hcl⟩:∃b off,O=some ⟨b,off,none⟩∧b<w.heap.size∧∀j,j<zs.length→w.cell? ⟨b,off+j,none⟩=some (I (zs[j]?.getD 0)):=by
    rcases HI.out with h|h
    ·omega
    ·exact h
   have c0:wr.cell? ⟨b,off+k,none⟩=some (I y):=by rw [oH.out.up.cell (p:=⟨b,off+k,none⟩) hbw,hcl k hkl,hy];rfl
   have HY:=ae hy;have i0:(0:Int)≤(k:Int):=by omega
   have i1:(k:Int)<(o:Int):=by omega
   clear hkl hcl hy;by_cases AQ:0≤y∧y<(m:Int)
   ·obtain ⟨hy0,hy1⟩:=AQ;have q0:¬y<0:=by omega
    have q1:¬(m:Int)≤y:=by omega
    go_wp2_with fail;go_roundw
    case rel=>
     refine ⟨k+1,by omega,by go_num,fun j y' hj hy'=>?_,oH.out⟩;by_cases e:j=k
     ·subst e;have h1:=HY.out;rw [hy'] at h1;injection h1 with h1;omega
     ·exact kS.out j y' (by omega) hy'
    case measure=>simp [intOf];omega
   ·have HBAD:Hid (∃k∈zs,¬(0≤k∧k<(cs.length:Int))):=ae ⟨y,fK HY.out,by rw [HM.out];exact AQ⟩;by_cases q0:y<0
    ·clear AQ;go_wp2_with (first
      |((with_reducible refine iI 51 ?_);refine bY rfl _ rfl iQ (by kernel_rfl) ?_)
      |((with_reducible refine bT 51 ?_);refine wpList_store_row rfl _ _ _ rfl w.heap.size iQ rfl rfl 51 iQ oH.out.res lF rfl vC ?_))
     refine bodyPost_ret (v:= .tuple #[.agg iQ,I 0,I 1]) (jL rfl _ _ w.heap.size _ iQ (0,0) _ rfl (setRow_heap _ _ _ _ _ _ oH.out.res) Tryz.underlying51 rfl lF _ _ rfl rfl) rfl ?_;exact ⟨below_setRow oH.out.up (Nat.le_refl _) _, .inl ⟨HBAD.out,rfl⟩⟩
    ·have q1:(m:Int)≤y:=by omega
     clear AQ;go_wp2_with (first
      |((with_reducible refine iI 51 ?_);refine bY rfl _ rfl iQ (by kernel_rfl) ?_)
      |((with_reducible refine bT 51 ?_);refine wpList_store_row rfl _ _ _ rfl w.heap.size iQ rfl rfl 51 iQ oH.out.res lF rfl vC ?_))
     refine bodyPost_ret (v:= .tuple #[.agg iQ,I 0,I 1]) (jL rfl _ _ w.heap.size _ iQ (0,0) _ rfl (setRow_heap _ _ _ _ _ _ oH.out.res) Tryz.underlying51 rfl lF _ _ rfl rfl) rfl ?_;exact ⟨below_setRow oH.out.up (Nat.le_refl _) _, .inl ⟨HBAD.out,rfl⟩⟩
  ·have hke:k=o:=by omega
   have Pz:Hid (∀k∈zs,0≤k∧k<(cs.length:Int)):=ae fun y hy=>by
    obtain ⟨j,hj⟩:=List.mem_iff_getElem?.1 hy;have h1:=(iU.1 hj).1;have h2:=kS.out j y (by have:=HO.out;omega) hj;rw [HM.out];exact h2
   have hnl:¬(k:Int)<(o:Int):=by omega
   clear hke hlt kS;go_wp2_with fail;clear hnl
   go_loopw [35] (fun i wr=>Pr2 w cs zs name o i wr) (fun i _=>o - (intOf i).toNat)
   case atStart=>exact ⟨0,Nat.zero_le _,rfl,fun j y hj=>absurd hj (Nat.not_lt_zero _),oH.out⟩
   case round=>
    obtain ⟨q,hq,rfl,hall,hv⟩:=hrel;have kS:=ae hall;have ni:=ae hv;clear hall hv oH;by_cases hlt:q<o
    ·have UR:q<zs.length:=by rw [HO.out];exact hlt
     obtain ⟨y,hy⟩:∃y,zs[q]? =some y:=⟨_,dE UR⟩;obtain ⟨b,off,rfl,hbw,hcl⟩:∃b off,O=some ⟨b,off,none⟩∧b<w.heap.size∧∀j,j<zs.length→w.cell? ⟨b,off+j,none⟩=some (I (zs[j]?.getD 0)):=by
      rcases HI.out with h|h
      ·omega
      ·exact h
     have c0:wr.cell? ⟨b,off+q,none⟩=some (I y):=by rw [ni.out.up.cell (p:=⟨b,off+q,none⟩) hbw,hcl q UR,hy];rfl
     have AQ:=Pz.out y (fK hy);rw [HM.out] at AQ;obtain ⟨r,rfl⟩:=Int.eq_ofNat_of_zero_le AQ.1;have hrm:r<m:=by omega
     obtain ⟨x,hx⟩:∃x,cs[r]? =some x:=⟨_,dE (by rw [HM.out];exact hrm)⟩;have hxm:=fK hx;obtain ⟨g,YJ,rfl,hgw,hgl⟩:=HC.out.row.there (by rw [List.length_map,HM.out];omega);have c1:wr.cell? ⟨g,YJ+r,none⟩=some (.slice x.A x.ts.length x.c):=by
      rw [ni.out.up.cell (p:=⟨g,YJ+r,none⟩) hgw];exact hgl r _ (by rw [List.getElem?_map,hx];rfl)
     have Po:=ae (HC.out.each x hxm);have OZ:=ae (HL.out x hxm);have HX:Hid (cs[((r:Nat):Int).toNat]? =some x):=ae hx;have HY:=ae hy;have i0:(0:Int)≤(q:Int):=by omega
     have i1:(q:Int)<(o:Int):=by omega
     have r0:(0:Int)≤(r:Int):=by omega
     have r1:(r:Int)<(m:Int):=by omega
     clear UR hcl hy AQ hx hxm hgl;go_wp2_with fail;refine (show Calls Tryz.prog _ _ wr _ from yu x.A x.c x.ts.length x.ts wr rfl OZ.out.1 ((Po.out.keep ni.out.up).more ni.out.up.size)).mono ?_;rintro e w3 ⟨p,bb,rfl,hp,hb3⟩;have hrg:=AB hp;have HP:=ae hp;have vH:=ae (ni.out.grow hb3);have c1':=(hb3.cell (p:=⟨g,YJ+r,none⟩) (dR hgw ni.out.up.size)).trans c1;clear hb3 hp;have NEXT:Hid (pk cs name (r:Int)=none→∀(j:Nat) (y:Int),j<q+1→zs[j]? =some y→pk cs name y=none):=ae fun h0 j y hj hy=>by
      by_cases e:j=q
      ·subst e;have h1:=HY.out;rw [hy] at h1;injection h1 with h1;rw [h1];exact h0
      ·exact kS.out j y (by omega) hy
     cases bb with
     |false=>
      have PG:=ae (MG (name:=name) HX.out HP.out (by simp));clear hrg;go_wp2_with fail;go_roundw
      case rel=>exact ⟨q+1,by omega,by go_num,NEXT.out PG.out,vH.out⟩
      case measure=>simp [intOf];omega
     |true=>
      rcases hrg with hneg|⟨i,t,rfl,ht⟩
      ·have PG:=ae (MG (name:=name) HX.out HP.out (by omega));have q2:¬(0:Int)≤p:=by omega
       go_wp2_with fail;go_roundw
       case rel=>exact ⟨q+1,by omega,by go_num,NEXT.out PG.out,vH.out⟩
       case measure=>simp [intOf];omega
      ·have ht:=ht rfl;have CY:=fK ht;have h68:=(Po.out.each t CY).size;have hil:i<x.ts.length:=(iU.1 ht).1;obtain ⟨tb,toff,hta,htw,htab⟩:∃b off,x.A=some ⟨b,off,none⟩∧b<w.heap.size∧rJ w b off x.ts:=by
        rcases zK Po.out with h0|h0
        ·omega
        ·exact h0
       have Le:Hid (w3.rangeAt tb (toff+i*68) t.cells):=ae (aU (htab i t ht).1 vH.out.up htw);have dM:Hid ((Tryz.prog.info? 32).map (·.size)=some t.cells.length):=ae (by rw [h68];kernel_rfl);have HTA:=ae (((Po.out.each t CY).keep vH.out.up).more vH.out.up.size);have TQ:=ae (OZ.out.2 t CY);have HPK:=ae (pk_at (name:=name) HX.out HP.out ht);have j0:(0:Int)≤(i:Int):=by omega
       obtain ⟨nx,hnx⟩:∃nx,x.ts.length=nx:=⟨_,rfl⟩;have j1:(i:Int)<(nx:Int):=by omega
       rw [hta,hnx] at c1';clear ht CY h68 hil htab hta hnx c1 c0;go_wp2_with ((with_reducible refine dI 32 ?_);refine wpList_load_mid rfl _ _ rfl tb (toff+i*68) rfl t.cells _ Le.out Tryz.underlying32 rfl dM.out ?_);refine (show Calls Tryz.prog _ #[.agg t.cells.toArray, .string name] w3 _ from BQ t t.zs.length name w3 rfl TQ.out.1 TQ.out.2 HTA.out).mono ?_;rintro e w4 ⟨hb4,⟨hno,rfl⟩|⟨z,s,hz,rfl,hzo,ez,hez,rfl⟩⟩
       ·have PG:Hid (pk cs name (r:Int)=none):=ae (by rw [HPK.out];exact hno);have Tj:=ae (vH.out.grow hb4);clear hb4 hno;go_wp2_with (first
         |(with_reducible refine bn 51 ?_;refine dh rfl _ rfl iQ (by kernel_rfl) ?_)
         |((with_reducible refine bT 51 ?_);refine dH rfl _ _ _ rfl iQ rfl rfl 51 iQ rfl lF rfl vC ?_;intro W5 hb5 _ _;have HV5:=ae (Tj.out.grow hb5);clear hb5))
        go_roundw
        case rel=>exact ⟨q+1,by omega,by go_num,NEXT.out PG.out,HV5.out⟩
        case measure=>simp [intOf];omega
       ·have HYES:Hid (pk cs name (r:Int)=some ez.z):=ae (by rw [HPK.out];exact hz);have Tj:=ae (vH.out.grow hb4);have HZO:=ae hzo;have hlw:=vH.out.lt;have Z7:Hid (oQ ez.z):=ae (by
         have h1:=HTA.out.names;rw [h1] at hez;obtain ⟨v,hv,rfl⟩:=List.mem_map.1 hez;exact TQ.out.2 v hv)
        clear hb4 hzo hz hez;go_wp2_with (first
         |(with_reducible refine bn 51 ?_;refine dh rfl _ rfl iQ (by kernel_rfl) ?_)
         |((with_reducible refine bT 51 ?_);refine dH rfl _ _ _ rfl (aj ez.z s) rfl rfl 51 iQ rfl (kC _ _) rfl (vw _ _) ?_;intro W5 hb5 hl5 oL;have HV5:=ae (Tj.out.grow hb5);have oN:=ae oL;have NG:=ae (HZO.out.aQ hb5.size fun k _ h2=>hb5.block k h2);clear hb5 hl5 oL)
         |((with_reducible refine dI 51 ?_);refine aV rfl _ _ rfl w4.heap.size rfl (aj ez.z s) oN.out _ Tryz.underlying51 rfl (kC _ _) ?_)
         |((with_reducible refine bT 51 ?_);refine wpList_store_row rfl _ _ _ rfl w.heap.size (aj ez.z s) rfl rfl 51 iQ HV5.out.res (kC _ _) rfl (vw _ _) ?_))
        refine bodyPost_ret (v:= .tuple #[.agg (aj ez.z s),I (r:Int),I 0]) (jL rfl _ _ w.heap.size _ (aj ez.z s) (0,0) _ rfl (setRow_heap _ _ _ _ _ _ HV5.out.res) Tryz.underlying51 rfl (kC _ _) _ _ rfl rfl) rfl ?_;refine ⟨below_setRow HV5.out.up (Nat.le_refl _) _, .inr ⟨Pz.out, .inr ⟨q,(r:Int),ez.z,s,HY.out,HYES.out,kS.out,rfl,?_,Z7.out⟩⟩⟩;exact (NG.out.aQ (by simp [World.setRow]) fun k h1 _=>setRow_other _ _ k _ (by omega)).lower (by omega)
    ·have hqe:q=o:=by omega
     have HNONE:Hid (∀k∈zs,pk cs name k=none):=ae fun y hy=>by
      obtain ⟨j,hj⟩:=List.mem_iff_getElem?.1 hy;have h1:=(iU.1 hj).1;exact kS.out j y (by have:=HO.out;omega) hj
     have hnl:¬(q:Int)<(o:Int):=by omega
     clear hqe hlt;go_wp2_with (first
      |((with_reducible refine iI 51 ?_);refine bY rfl _ rfl iQ (by kernel_rfl) ?_)
      |((with_reducible refine bT 51 ?_);refine wpList_store_row rfl _ _ _ rfl w.heap.size iQ rfl rfl 51 iQ ni.out.res lF rfl vC ?_))
     refine bodyPost_ret (v:= .tuple #[.agg iQ,I 0,I 4]) (jL rfl _ _ w.heap.size _ iQ (0,0) _ rfl (setRow_heap _ _ _ _ _ _ ni.out.res) Tryz.underlying51 rfl lF _ _ rfl rfl) rfl ?_;exact ⟨below_setRow ni.out.up (Nat.le_refl _) _, .inr ⟨Pz.out, .inl ⟨HNONE.out,rfl⟩⟩⟩
theorem Zt (a b:Int) (c:Bool) (W:World):(binOp .neq 134 (.agg #[I a,I b, .bool c]) (.agg #[I a,I b, .bool c])).run Tryz.prog W= .ok (.bool false) W:=by simp [go_sem]
theorem Zu (a b:Int) (W:World):(binOp .neq 100 (.agg #[I a,I b]) (.agg #[I a,I b])).run Tryz.prog W= .ok (.bool false) W:=by simp [go_sem]
theorem Zv (a b c d e:Int) (W:World):(binOp .neq 130 (.agg #[I a,I b,I c,I d,I e]) (.agg #[I a,I b,I c,I d,I e])).run Tryz.prog W= .ok (.bool false) W:=by simp [go_sem]
structure oK (w:World) (t:TypeId) (us vs:Array Value) (W:World):Prop where
 a:Row W w.heap.size us
 b:Row W (w.heap.size+1) vs
 up:Below w.heap.size w W
theorem oK.start (w:World) (t:TypeId) (us vs:Array Value):oK w t us vs ((w.alloc (.cells us t)).alloc (.cells vs t)):=
 ⟨Row.lh (heap_alloc2_old w _ _),Row.lh (heap_alloc2_new w _ _),ah (ag w _) (ag _ _)⟩
theorem oK.drew {w W:World} {t:TypeId} {us vs:Array Value} (h:oK w t us vs W) (q:Nat):oK w t us vs (W.drewN q):=
 ⟨h.a.keep (below_drewN' _ _),h.b.keep (below_drewN' _ _),ah h.up (below_drewN' _ _)⟩
theorem oK.below {w W W':World} {t:TypeId} {us vs:Array Value} (h:oK w t us vs W) (hb:Below W.heap.size W W'):oK w t us vs W':=
 ⟨h.a.keep hb,h.b.keep hb,ah h.up hb⟩
def Ah (w:World) (t:TypeId) (us vs:Array Value) (n:Nat) (i:Value) (wr:World):Prop:=∃k:Nat,k≤n∧i= .int .i64 k∧oK w t us vs wr
theorem Fh {w W:World} {A A':Option Addr} {α:Type} {s:Nat} {f:α→List Value} {xs:List α} (hs:∀x∈xs,(f x).length=s) (h:aB w w.heap.size A (xs.flatMap f)) (h':aB w w.heap.size A' (xs.flatMap f)) (hb:Below w.heap.size w W) (k:Nat) (hk:k<xs.length) (h0:0<s):
  ∃x b off b' off',xs[k]? =some x∧A=some ⟨b,off,none⟩∧A'=some ⟨b',off',none⟩∧W.rangeAt b (off+k*s) (f x)∧W.rangeAt b' (off'+k*s) (f x):=by
 have hl:0<(xs.flatMap f).length:=by rw [dJ f xs hs];exact Nat.mul_pos (by omega) h0
 obtain ⟨b,off,e1,hb1,hc1⟩:=h.there hl;obtain ⟨b',off',e2,hb2,hc2⟩:=h'.there hl;have hx:xs[k]? =some xs[k]:=dE hk;exact ⟨xs[k],b,off,b',off',hx,e1,e2,aU (aB.elem hs hc1 k _ hx) hb hb1,aU (aB.elem hs hc2 k _ hx) hb hb2⟩
theorem Oc (zs:List Int):zs.map I=zs.flatMap (fun z=> [I z]):=by
 induction zs with
 |nil=>rfl
 |cons z zs ih=>rw [List.map_cons,ih,List.flatMap_cons];rfl
theorem E5 (c:Cal) (A1 A2 B1 B2:Option Addr) (a1 a2 b1 b2 n m:Nat) (w:World) (hn:c.au.length=n) (hm:c.rules.length=m) (hn1:n≤10000) (hmm:m≤10000) (hm1:aB w w.heap.size A1 (c.au.map I)) (hm2:aB w w.heap.size A2 (c.au.map I)) (hr1:aB w w.heap.size B1 (c.rules.flatMap Lr.cells)) (hr2:aB w w.heap.size B2 (c.rules.flatMap Lr.cells)):
  Calls Tryz.prog 48 #[.agg (aF c A1 a1 B1 b1), .agg (aF c A2 a2 B2 b2)] w (Gives (.bool true) w):=by
 rw [Oc] at hm1 hm2;have HC:Hid (aB w w.heap.size A1 (c.au.flatMap fun z=> [I z])∧aB w w.heap.size A2 (c.au.flatMap fun z=> [I z])∧aB w w.heap.size B1 (c.rules.flatMap Lr.cells)∧aB w w.heap.size B2 (c.rules.flatMap Lr.cells)):=ae ⟨hm1,hm2,hr1,hr2⟩;have HV:=ae (oK.start w 47 (aF c A1 a1 B1 b1) (aF c A2 a2 B2 b2));clear hm1 hm2 hr1 hr2;have g0:=HV.out.a.2;have g1:=HV.out.b.2;have p0:((w.alloc (.cells (aF c A1 a1 B1 b1) 47)).alloc (.cells (aF c A2 a2 B2 b2) 47)).cell? ⟨w.heap.size,0,none⟩=some (I c.aN):=g0 0;have p1:((w.alloc (.cells (aF c A1 a1 B1 b1) 47)).alloc (.cells (aF c A2 a2 B2 b2) 47)).cell? ⟨w.heap.size,1,none⟩=some (.slice A1 n a1):=by rw [g0 1,←hn];rfl
 have p2:((w.alloc (.cells (aF c A1 a1 B1 b1) 47)).alloc (.cells (aF c A2 a2 B2 b2) 47)).cell? ⟨w.heap.size,2,none⟩=some (I c.bu):=g0 2;have p3:((w.alloc (.cells (aF c A1 a1 B1 b1) 47)).alloc (.cells (aF c A2 a2 B2 b2) 47)).cell? ⟨w.heap.size,3,none⟩=some (.slice B1 m b1):=by rw [g0 3,←hm];rfl
 have q0:((w.alloc (.cells (aF c A1 a1 B1 b1) 47)).alloc (.cells (aF c A2 a2 B2 b2) 47)).cell? ⟨w.heap.size+1,0,none⟩=some (I c.aN):=g1 0;have q1:((w.alloc (.cells (aF c A1 a1 B1 b1) 47)).alloc (.cells (aF c A2 a2 B2 b2) 47)).cell? ⟨w.heap.size+1,1,none⟩=some (.slice A2 n a2):=by rw [g1 1,←hn];rfl
 have q2:((w.alloc (.cells (aF c A1 a1 B1 b1) 47)).alloc (.cells (aF c A2 a2 B2 b2) 47)).cell? ⟨w.heap.size+1,2,none⟩=some (I c.bu):=g1 2;have q3:((w.alloc (.cells (aF c A1 a1 B1 b1) 47)).alloc (.cells (aF c A2 a2 B2 b2) 47)).cell? ⟨w.heap.size+1,3,none⟩=some (.slice B2 m b2):=by rw [g1 3,←hm];rfl
 clear g0 g1;go_enter Tryz.func48,Tryz.ntmps48;go_wp2_with fail;clear p0 p1 p2 p3 q0 q1 q2 q3
 go_loopw [5] (fun i wr=>Ah w 47 (aF c A1 a1 B1 b1) (aF c A2 a2 B2 b2) n i wr) (fun i _=>n - (intOf i).toNat)
 case atStart=>exact ⟨0,Nat.zero_le _,rfl,HV.out⟩
 case round=>
  obtain ⟨k,hk,rfl,hv⟩:=hrel;have HW:=ae hv;clear hv;by_cases hlt:k<n
  ·obtain ⟨x,ba,oa,bc,oc,hx,e1,e2,hr1,hr2⟩:=Fh (s:=1) (f:=fun z=> [I z]) (xs:=c.au) (fun _ _=>rfl) HC.out.1 HC.out.2.1 HW.out.up k (by omega) (by omega);have v1:wr.cell? ⟨w.heap.size,1,none⟩=some (.slice (some ⟨ba,oa,none⟩) n a1):=by rw [HW.out.a.2 1,←e1];exact (by rw [←hn];rfl)
   have v2:wr.cell? ⟨w.heap.size+1,1,none⟩=some (.slice (some ⟨bc,oc,none⟩) n a2):=by rw [HW.out.b.2 1,←e2];exact (by rw [←hn];rfl)
   have c0:wr.cell? ⟨ba,oa+k,none⟩=some (I x):=by have h:=hr1 0 _ rfl;rwa [Nat.mul_one] at h
   have d0:wr.cell? ⟨bc,oc+k,none⟩=some (I x):=by have h:=hr2 0 _ rfl;rwa [Nat.mul_one] at h
   have i0:(0:Int)≤(k:Int):=by omega
   have i1:(k:Int)<(n:Int):=by omega
   clear hx e1 e2 hr1 hr2;go_wp2_with fail;go_quiet (fail);go_wp2_with fail;go_roundw
   case rel=>exact ⟨k+1,by omega,by go_num,HW.out.drew _⟩
   case measure=>simp [intOf];omega
  ·have hke:k=n:=by omega
   have hnl:¬(k:Int)<(n:Int):=by omega
   have v1:=HW.out.a.2 1;have u1:wr.cell? ⟨w.heap.size,1,none⟩=some (.slice A1 n a1):=by rw [v1,←hn];rfl
   clear v1 hke hlt;have v3:=HW.out.a.2 3;have u3:wr.cell? ⟨w.heap.size,3,none⟩=some (.slice B1 m b1):=by rw [v3,←hm];rfl
   clear v3;go_wp2_with fail;clear u3 hnl u1
   go_loopw [6] (fun i wr=>Ah w 47 (aF c A1 a1 B1 b1) (aF c A2 a2 B2 b2) m i wr) (fun i _=>m - (intOf i).toNat)
   case atStart=>exact ⟨0,Nat.zero_le _,rfl,HW.out⟩
   case round=>
    obtain ⟨k,hk,rfl,hv⟩:=hrel;have HW:=ae hv;clear hv;by_cases hlt:k<m
    ·obtain ⟨x,ba,oa,bc,oc,hx,e1,e2,hr1,hr2⟩:=Fh (s:=3) (f:=Lr.cells) (xs:=c.rules) (fun _ _=>rfl) HC.out.2.2.1 HC.out.2.2.2 HW.out.up k (by omega) (by omega);have v1:wr.cell? ⟨w.heap.size,3,none⟩=some (.slice (some ⟨ba,oa,none⟩) m b1):=by rw [HW.out.a.2 3,←e1];exact (by rw [←hm];rfl)
     have v2:wr.cell? ⟨w.heap.size+1,3,none⟩=some (.slice (some ⟨bc,oc,none⟩) m b2):=by rw [HW.out.b.2 3,←e2];exact (by rw [←hm];rfl)
     have c0:wr.cell? ⟨ba,oa+k*3,none⟩=some (I x.every):=hr1 0 _ rfl;have d0:wr.cell? ⟨bc,oc+k*3,none⟩=some (I x.every):=hr2 0 _ rfl;have c1:wr.cell? ⟨ba,oa+k*3+1,none⟩=some (I x.rest):=hr1 1 _ rfl;have d1:wr.cell? ⟨bc,oc+k*3+1,none⟩=some (I x.rest):=hr2 1 _ rfl;have c2:wr.cell? ⟨ba,oa+k*3+2,none⟩=some (.bool x.yes):=hr1 2 _ rfl;have d2:wr.cell? ⟨bc,oc+k*3+2,none⟩=some (.bool x.yes):=hr2 2 _ rfl;have i0:(0:Int)≤(k:Int):=by omega
     have i1:(k:Int)<(m:Int):=by omega
     have hq:=fun W=>Zt x.every x.rest x.yes W;clear hx e1 e2 hr1 hr2;go_wp2_with fail;go_quiet (fail);go_wp2_with fail;go_roundw
     case rel=>exact ⟨k+1,by omega,by go_num,HW.out.drew _⟩
     case measure=>simp [intOf];omega
    ·have hke:k=m:=by omega
     have hnl:¬(k:Int)<(m:Int):=by omega
     have v1:=HW.out.a.2 3;have u1:wr.cell? ⟨w.heap.size,3,none⟩=some (.slice B1 m b1):=by rw [v1,←hm];rfl
     clear v1 hke hlt;go_wp2_with fail;go_ret;exact ⟨rfl,HW.out.up⟩
theorem Dc (z:Zn) (s1 s2:Zs) (n m:Nat) (w:World) (hl:oQ z) (hn:z.trans.length=n) (hm:z.ay.length=m) (h1:gW w w.heap.size s1 z) (h2:gW w w.heap.size s2 z):
  Calls Tryz.prog 26 #[.agg (aj z s1), .agg (aj z s2)] w (Gives (.bool true) w):=by
 have hn1:n≤10000:=by have:=hl.trans;omega
 have hmm:m≤10000:=by have:=hl.ay;omega
 have HC:Hid (gW w w.heap.size s1 z∧gW w w.heap.size s2 z):=ae ⟨h1,h2⟩;have HV:=ae (oK.start w 51 (aj z s1) (aj z s2));have uD:Hid (Calls Tryz.prog 48 #[.agg #[I z.cal.aN, .slice s1.A z.cal.au.length s1.a,I z.cal.bu, .slice s1.B z.cal.rules.length s1.b], .agg #[I z.cal.aN, .slice s2.A z.cal.au.length s2.a,I z.cal.bu, .slice s2.B z.cal.rules.length s2.b]] ((w.alloc (.cells (aj z s1) 51)).alloc (.cells (aj z s2) 51)) (Gives (.bool true) ((w.alloc (.cells (aj z s1) 51)).alloc (.cells (aj z s2) 51)))):=
  ae (E5 z.cal s1.A s2.A s1.B s2.B s1.a s2.a s1.b s2.b _ _ ((w.alloc (.cells (aj z s1) 51)).alloc (.cells (aj z s2) 51)) rfl rfl hl.au hl.rules (h1.au.keep HV.out.up |>.more HV.out.up.size) (h2.au.keep HV.out.up |>.more HV.out.up.size) (h1.rules.keep HV.out.up |>.more HV.out.up.size) (h2.rules.keep HV.out.up |>.more HV.out.up.size))
 clear h1 h2 hl;have g0:=HV.out.a.2;have g1:=HV.out.b.2;have p0:((w.alloc (.cells (aj z s1) 51)).alloc (.cells (aj z s2) 51)).cell? ⟨w.heap.size,0,none⟩=some (I z.cal.aN):=g0 0;have p1:((w.alloc (.cells (aj z s1) 51)).alloc (.cells (aj z s2) 51)).cell? ⟨w.heap.size,1,none⟩=some (.slice s1.A z.cal.au.length s1.a):=g0 1;have p2:((w.alloc (.cells (aj z s1) 51)).alloc (.cells (aj z s2) 51)).cell? ⟨w.heap.size,2,none⟩=some (I z.cal.bu):=g0 2;have p3:((w.alloc (.cells (aj z s1) 51)).alloc (.cells (aj z s2) 51)).cell? ⟨w.heap.size,3,none⟩=some (.slice s1.B z.cal.rules.length s1.b):=g0 3;have p4:((w.alloc (.cells (aj z s1) 51)).alloc (.cells (aj z s2) 51)).cell? ⟨w.heap.size,4,none⟩=some (I z.start):=g0 4;have p5:((w.alloc (.cells (aj z s1) 51)).alloc (.cells (aj z s2) 51)).cell? ⟨w.heap.size,5,none⟩=some (.slice s1.C n s1.c):=by rw [g0 5,←hn];rfl
 have p6:((w.alloc (.cells (aj z s1) 51)).alloc (.cells (aj z s2) 51)).cell? ⟨w.heap.size,6,none⟩=some (I z.hor):=g0 6;have p7:((w.alloc (.cells (aj z s1) 51)).alloc (.cells (aj z s2) 51)).cell? ⟨w.heap.size,7,none⟩=some (.slice s1.D m s1.d):=by rw [g0 7,←hm];rfl
 have q0:((w.alloc (.cells (aj z s1) 51)).alloc (.cells (aj z s2) 51)).cell? ⟨w.heap.size+1,0,none⟩=some (I z.cal.aN):=g1 0;have q1:((w.alloc (.cells (aj z s1) 51)).alloc (.cells (aj z s2) 51)).cell? ⟨w.heap.size+1,1,none⟩=some (.slice s2.A z.cal.au.length s2.a):=g1 1;have q2:((w.alloc (.cells (aj z s1) 51)).alloc (.cells (aj z s2) 51)).cell? ⟨w.heap.size+1,2,none⟩=some (I z.cal.bu):=g1 2;have q3:((w.alloc (.cells (aj z s1) 51)).alloc (.cells (aj z s2) 51)).cell? ⟨w.heap.size+1,3,none⟩=some (.slice s2.B z.cal.rules.length s2.b):=g1 3;have q4:((w.alloc (.cells (aj z s1) 51)).alloc (.cells (aj z s2) 51)).cell? ⟨w.heap.size+1,4,none⟩=some (I z.start):=g1 4;have q5:((w.alloc (.cells (aj z s1) 51)).alloc (.cells (aj z s2) 51)).cell? ⟨w.heap.size+1,5,none⟩=some (.slice s2.C n s2.c):=by rw [g1 5,←hn];rfl
 have q6:((w.alloc (.cells (aj z s1) 51)).alloc (.cells (aj z s2) 51)).cell? ⟨w.heap.size+1,6,none⟩=some (I z.hor):=g1 6;have q7:((w.alloc (.cells (aj z s1) 51)).alloc (.cells (aj z s2) 51)).cell? ⟨w.heap.size+1,7,none⟩=some (.slice s2.D m s2.d):=by rw [g1 7,←hm];rfl
 clear g0 g1;go_enter Tryz.func26,Tryz.ntmps26;go_wp2_with fail;clear p0 p1 p2 p3 p4 p5 p6 p7 q0 q1 q2 q3 q4 q5 q6 q7;refine uD.out.mono ?_;rintro e w2 ⟨rfl,hb2⟩;have ni:=ae (HV.out.below hb2);have t1:w2.cell? ⟨w.heap.size,5,none⟩=some (.slice s1.C n s1.c):=by rw [ni.out.a.2 5,←hn];rfl
 clear hb2 uD HV;go_wp2_with fail;clear t1
 go_loopw [5] (fun i wr=>Ah w 51 (aj z s1) (aj z s2) n i wr) (fun i _=>n - (intOf i).toNat)
 case atStart=>exact ⟨0,Nat.zero_le _,rfl,ni.out⟩
 case round=>
  obtain ⟨k,hk,rfl,hv⟩:=hrel;have HW:=ae hv;clear hv;by_cases hlt:k<n
  ·obtain ⟨x,ba,oa,bc,oc,hx,e1,e2,hr1,hr2⟩:=Fh (s:=2) (f:=Tr.cells) (xs:=z.trans) (fun _ _=>rfl) HC.out.1.trans HC.out.2.trans HW.out.up k (by omega) (by omega);have v1:wr.cell? ⟨w.heap.size,5,none⟩=some (.slice (some ⟨ba,oa,none⟩) n s1.c):=by rw [HW.out.a.2 5,←e1];exact (by rw [←hn];rfl)
   have v2:wr.cell? ⟨w.heap.size+1,5,none⟩=some (.slice (some ⟨bc,oc,none⟩) n s2.c):=by rw [HW.out.b.2 5,←e2];exact (by rw [←hn];rfl)
   have c0:wr.cell? ⟨ba,oa+k*2,none⟩=some (I x.at_):=hr1 0 _ rfl;have d0:wr.cell? ⟨bc,oc+k*2,none⟩=some (I x.at_):=hr2 0 _ rfl;have c1:wr.cell? ⟨ba,oa+k*2+1,none⟩=some (I x.off):=hr1 1 _ rfl;have d1:wr.cell? ⟨bc,oc+k*2+1,none⟩=some (I x.off):=hr2 1 _ rfl;have i0:(0:Int)≤(k:Int):=by omega
   have i1:(k:Int)<(n:Int):=by omega
   have hq:=fun W=>Zu x.at_ x.off W;clear hx e1 e2 hr1 hr2;go_wp2_with fail;go_quiet (fail);go_wp2_with fail;go_roundw
   case rel=>exact ⟨k+1,by omega,by go_num,HW.out.drew _⟩
   case measure=>simp [intOf];omega
  ·have hke:k=n:=by omega
   have hnl:¬(k:Int)<(n:Int):=by omega
   have v1:=HW.out.a.2 5;have u1:wr.cell? ⟨w.heap.size,5,none⟩=some (.slice s1.C n s1.c):=by rw [v1,←hn];rfl
   clear v1 hke hlt;have v3:=HW.out.a.2 7;have u3:wr.cell? ⟨w.heap.size,7,none⟩=some (.slice s1.D m s1.d):=by rw [v3,←hm];rfl
   clear v3;go_wp2_with fail;clear u3 hnl u1
   go_loopw [6] (fun i wr=>Ah w 51 (aj z s1) (aj z s2) m i wr) (fun i _=>m - (intOf i).toNat)
   case atStart=>exact ⟨0,Nat.zero_le _,rfl,HW.out⟩
   case round=>
    obtain ⟨k,hk,rfl,hv⟩:=hrel;have HW:=ae hv;clear hv;by_cases hlt:k<m
    ·obtain ⟨x,ba,oa,bc,oc,hx,e1,e2,hr1,hr2⟩:=Fh (s:=5) (f:=Yr.cells) (xs:=z.ay) (fun _ _=>rfl) HC.out.1.ay HC.out.2.ay HW.out.up k (by omega) (by omega);have v1:wr.cell? ⟨w.heap.size,7,none⟩=some (.slice (some ⟨ba,oa,none⟩) m s1.d):=by rw [HW.out.a.2 7,←e1];exact (by rw [←hm];rfl)
     have v2:wr.cell? ⟨w.heap.size+1,7,none⟩=some (.slice (some ⟨bc,oc,none⟩) m s2.d):=by rw [HW.out.b.2 7,←e2];exact (by rw [←hm];rfl)
     have c0:wr.cell? ⟨ba,oa+k*5,none⟩=some (I x.month):=hr1 0 _ rfl;have d0:wr.cell? ⟨bc,oc+k*5,none⟩=some (I x.month):=hr2 0 _ rfl;have c1:wr.cell? ⟨ba,oa+k*5+1,none⟩=some (I x.bZ):=hr1 1 _ rfl;have d1:wr.cell? ⟨bc,oc+k*5+1,none⟩=some (I x.bZ):=hr2 1 _ rfl;have c2:wr.cell? ⟨ba,oa+k*5+2,none⟩=some (I x.cZ):=hr1 2 _ rfl;have d2:wr.cell? ⟨bc,oc+k*5+2,none⟩=some (I x.cZ):=hr2 2 _ rfl;have c3:wr.cell? ⟨ba,oa+k*5+3,none⟩=some (I x.minute):=hr1 3 _ rfl;have d3:wr.cell? ⟨bc,oc+k*5+3,none⟩=some (I x.minute):=hr2 3 _ rfl;have c4:wr.cell? ⟨ba,oa+k*5+4,none⟩=some (I x.off):=hr1 4 _ rfl;have d4:wr.cell? ⟨bc,oc+k*5+4,none⟩=some (I x.off):=hr2 4 _ rfl;have i0:(0:Int)≤(k:Int):=by omega
     have i1:(k:Int)<(m:Int):=by omega
     have hq:=fun W=>Zv x.month x.bZ x.cZ x.minute x.off W;clear hx e1 e2 hr1 hr2;go_wp2_with fail;go_quiet (fail);go_wp2_with fail;go_roundw
     case rel=>exact ⟨k+1,by omega,by go_num,HW.out.drew _⟩
     case measure=>simp [intOf];omega
    ·have hke:k=m:=by omega
     have hnl:¬(k:Int)<(m:Int):=by omega
     have v1:=HW.out.a.2 7;have u1:wr.cell? ⟨w.heap.size,7,none⟩=some (.slice s1.D m s1.d):=by rw [v1,←hm];rfl
     clear v1 hke hlt;go_wp2_with fail;go_ret;exact ⟨rfl,HW.out.up⟩
end Go.Proofs.YtdibbemgpikgjaaGreat
