/- The texts Pi, Pj, Kb, Kc, in this order. -/
import Derived.Test.YtbaehbbonkljpaaGreatDoorS00
import Derived.Test.YtbaehbbonkljpaaGreatDoorS03
import Derived.Test.YtbaehbbonkljpaaGreatDoorS05
set_option maxRecDepth 10000
set_option maxHeartbeats 8000000
namespace Go.Proofs.YtbaehbbonkljpaaGreatDoor
open Go Go.RowKit
theorem jV {P:Program} {fn:Func} {p u v:Tmp} {ty:TypeId} (h:fn.results= #[.cell p ty, .tmp u, .tmp v]) (tmps:Array Value) (w:World) (g:Nat) (t:TypeId) (cs:Array Value) (fr:Nat×Nat) (d:TypeDesc)
  (hp:tmps.getD p undef= .pointer (some ⟨g,0,none⟩)) (hg:w.heap[g]? =some (.cells cs t fr))
  (hu:P.underlying ty=some d) (hd:(match d with| .struct _| .array _ _=>true|_=>false)=true) (hi:(P.info? ty).map (·.size)=some cs.size) (v1 v2:Value) (hv1:tmps.getD u undef=v1) (hv2:tmps.getD v undef=v2):
  (results fn tmps).run P w= .ok (.tuple #[.agg cs,v1,v2]) w:=by
 have hp':tmps[p]?.getD undef= .pointer (some ⟨g,0,none⟩):=by simpa using hp
 have hv1':tmps[u]?.getD undef=v1:=by simpa using hv1
 have hv2':tmps[v]?.getD undef=v2:=by simpa using hv2
 simp [results,h,hp',asAddr,run_loadVar_row w g t ty cs fr d hg hu hd hi,hv1',hv2']
structure Aw where
 A:Option Addr
 c:Nat
 ts:List dF
def Aw.cell (x:Aw):Value:= .slice x.A x.ts.length x.c
structure AA (w:World) (B:Nat) (A:Option Addr) (cs:List Aw):Prop where
 row:aA w B A (cs.map Aw.cell)
 each:∀x∈cs,jq w B x.A x.ts
theorem AA.keep {w w':World} {B:Nat} {A:Option Addr} {cs:List Aw} (h:AA w B A cs) (hb:Below B w w'):AA w' B A cs:=⟨h.row.keep hb,fun x hx=>(h.each x hx).keep hb⟩
theorem AA.more {w:World} {B B':Nat} {A:Option Addr} {cs:List Aw} (h:AA w B A cs) (hB:B<=B'):AA w B' A cs:=⟨h.row.more hB,fun x hx=>(h.each x hx).more hB⟩
theorem AA.grow {w w':World} {A:Option Addr} {cs:List Aw} (h:AA w w.heap.size A cs) (hb:Below w.heap.size w w'):AA w' w'.heap.size A cs:=(h.keep hb).more hb.size
def Zf (cs:List Aw):Prop:=∀x∈cs,x.ts.length<=1000/\yU x.ts
def pick (ts:List dF) (name:ByteArray):Option Zn:=if (wK ts).2=true/\0<=(wK ts).1 then (ts[(wK ts).1.toNat]?).bind fun x=>mP x.t.aF name else none
def pk (cs:List Aw) (name:ByteArray) (k:Int):Option Zn:=(cs[k.toNat]?).bind fun c=>pick c.ts name
def SG (w:World) (cs:List Aw) (zs:List Int) (name:ByteArray) (e:Ending) (w':World):Prop:=
 Below w.heap.size w w'/\(((∃k∈zs,¬(0<=k/\k<(cs.length:Int)))/\e= .returned (.tuple #[.agg iH,I 0,I 1]))\/
  ((∀k∈zs,0<=k/\k<(cs.length:Int))/\(((∀k∈zs,pk cs name k=none)/\e= .returned (.tuple #[.agg iH,I 0,I 4]))\/
   ∃(j:Nat) (k:Int) (z:Zn) (s:Zs),zs[j]? =some k/\pk cs name k=some z/\(∀(i:Nat) (k':Int),i<j->zs[i]? =some k'->pk cs name k'=none)/\e= .returned (.tuple #[.agg (ay z s),I k,I 0])/\Rz w.heap.size w' s z/\jB z)))
structure ZU (w W:World):Prop where
 res:W.heap[w.heap.size]? =some (.cells iH 69 (0,0))
 up:Below w.heap.size w W
theorem ZU.grow {w W W':World} (h:ZU w W) (hb:Below W.heap.size W W'):ZU w W':=⟨(hb.block _ (bV.1 h.res).1).trans h.res,ah h.up hb⟩
theorem ZU.lt {w W:World} (h:ZU w W):w.heap.size<W.heap.size:=(bV.1 h.res).1
def Pr1 (w:World) (zs:List Int) (m o:Nat) (i:Value) (wr:World):Prop:=∃k:Nat,k<=o/\i= .int .i64 k/\(∀(j:Nat) (y:Int),j<k->zs[j]? =some y->0<=y/\y<(m:Int))/\ZU w wr
def Pr2 (w:World) (cs:List Aw) (zs:List Int) (name:ByteArray) (o:Nat) (i:Value) (wr:World):Prop:=∃k:Nat,k<=o/\i= .int .i64 k/\(∀(j:Nat) (y:Int),j<k->zs[j]? =some y->pk cs name y=none)/\ZU w wr
theorem OT {cs:List Aw} {name:ByteArray} {k:Int} {c:Aw} {p:Int} {b:Bool} (hc:cs[k.toNat]? =some c) (hp:wK c.ts=(p,b)) (h:¬(b=true/\0<=p)):pk cs name k=none:=by
 unfold pk pick;rw [hc,Option.bind_some,hp,if_neg h]
theorem pk_at {cs:List Aw} {name:ByteArray} {k:Int} {c:Aw} {i:Nat} {x:dF} (hc:cs[k.toNat]? =some c) (hp:wK c.ts=((i:Int),true)) (hx:c.ts[i]? =some x):pk cs name k=mP x.t.aF name:=by
 unfold pk pick;rw [hc,Option.bind_some,hp,if_pos ⟨rfl,by show (0:Int)<=(i:Int);omega⟩];show (c.ts[((i:Int)).toNat]?).bind _=_;rw [Int.toNat_natCast,hx];rfl
theorem Ci (A O:Option Addr) (c oc m o:Nat) (cs:List Aw) (zs:List Int) (name:ByteArray) (w:World) (hm:cs.length=m) (hm1:m<=1000) (ho:zs.length=o) (ho1:o<=1000) (hl:Zf cs) (h:AA w w.heap.size A cs) (hO:ku w w.heap.size O zs):
  Calls Tryz.prog 27 #[.slice A m c, .slice O o oc, .string name] w (SG w cs zs name):=by
 have HV:Hid (ZU w (w.alloc (.cells iH 69))):=ae ⟨heap_alloc_last w _,ag w _⟩;have HM:=ae hm;have HO:=ae ho;have HL:=ae hl;have HC:=ae h;have HI:=ae hO;clear hm ho hl h hO;go_enter Tryz.func27,Tryz.ntmps27;go_wp2_with (with_reducible refine aZ 69 ?_;refine dm rfl _ rfl iH (by kernel_rfl) ?_)
 go_loopw [19] (fun i wr=>Pr1 w zs m o i wr) (fun i _=>o - (intOf i).toNat)
 case atStart=>exact ⟨0,Nat.zero_le _,rfl,fun j y hj=>absurd hj (Nat.not_lt_zero _),HV.out⟩
 case round=>
  obtain ⟨k,hk,rfl,hall,hv⟩:=hrel;have iq:=ae hall;have oP:=ae hv;clear hall hv HV;by_cases hlt:k<o
  ·have hkl:k<zs.length:=by rw [HO.out];exact hlt
   obtain ⟨y,hy⟩:∃y,zs[k]? =some y:=⟨_,bK hkl⟩;obtain ⟨b,off,rfl,hbw,hcl⟩:∃b off,O=some ⟨b,off,none⟩/\b<w.heap.size/\∀j,j<zs.length->w.cell? ⟨b,off+j,none⟩=some (I (zs[j]?.getD 0)):=by
    rcases HI.out with h|h
    ·omega
    ·exact h
   have c0:wr.cell? ⟨b,off+k,none⟩=some (I y):=by rw [oP.out.up.cell (p:=⟨b,off+k,none⟩) hbw,hcl k hkl,hy];rfl
   have HY:=ae hy;have i0:(0:Int)<=(k:Int):=by omega
   have i1:(k:Int)<(o:Int):=by omega
   clear hkl hcl hy;by_cases hyr:0<=y/\y<(m:Int)
   ·obtain ⟨hy0,hy1⟩:=hyr;have q0:¬y<0:=by omega
    have q1:¬(m:Int)<=y:=by omega
    go_wp2_with fail;go_roundw
    case rel=>
     refine ⟨k+1,by omega,by go_num,fun j y' hj hy'=>?_,oP.out⟩;by_cases e:j=k
     ·subst e;have h1:=HY.out;rw [hy'] at h1;injection h1 with h1;omega
     ·exact iq.out j y' (by omega) hy'
    case measure=>simp [intOf];omega
   ·have HBAD:Hid (∃k∈zs,¬(0<=k/\k<(cs.length:Int))):=ae ⟨y,gZ HY.out,by rw [HM.out];exact hyr⟩;by_cases q0:y<0
    ·clear hyr;go_wp2_with (first
      |((with_reducible refine fP 69 ?_);refine bz rfl _ rfl iH (by kernel_rfl) ?_)
      |((with_reducible refine bY 69 ?_);refine wpList_store_row rfl _ _ _ rfl w.heap.size iH rfl rfl 69 iH oP.out.res mf rfl wZ ?_))
     refine bodyPost_ret (v:= .tuple #[.agg iH,I 0,I 1]) (jV rfl _ _ w.heap.size _ iH (0,0) _ rfl (setRow_heap _ _ _ _ _ _ oP.out.res) Tryz.underlying69 rfl mf _ _ rfl rfl) rfl ?_;exact ⟨below_setRow oP.out.up (Nat.le_refl _) _, .inl ⟨HBAD.out,rfl⟩⟩
    ·have q1:(m:Int)<=y:=by omega
     clear hyr;go_wp2_with (first
      |((with_reducible refine fP 69 ?_);refine bz rfl _ rfl iH (by kernel_rfl) ?_)
      |((with_reducible refine bY 69 ?_);refine wpList_store_row rfl _ _ _ rfl w.heap.size iH rfl rfl 69 iH oP.out.res mf rfl wZ ?_))
     refine bodyPost_ret (v:= .tuple #[.agg iH,I 0,I 1]) (jV rfl _ _ w.heap.size _ iH (0,0) _ rfl (setRow_heap _ _ _ _ _ _ oP.out.res) Tryz.underlying69 rfl mf _ _ rfl rfl) rfl ?_;exact ⟨below_setRow oP.out.up (Nat.le_refl _) _, .inl ⟨HBAD.out,rfl⟩⟩
  ·have hke:k=o:=by omega
   have Ew:Hid (∀k∈zs,0<=k/\k<(cs.length:Int)):=ae fun y hy=>by
    obtain ⟨j,hj⟩:=List.mem_iff_getElem?.1 hy;have h1:=(gQ.1 hj).1;have h2:=iq.out j y (by have:=HO.out;omega) hj;rw [HM.out];exact h2
   have hnl:¬(k:Int)<(o:Int):=by omega
   clear hke hlt iq;go_wp2_with fail;clear hnl
   go_loopw [35] (fun i wr=>Pr2 w cs zs name o i wr) (fun i _=>o - (intOf i).toNat)
   case atStart=>exact ⟨0,Nat.zero_le _,rfl,fun j y hj=>absurd hj (Nat.not_lt_zero _),oP.out⟩
   case round=>
    obtain ⟨q,hq,rfl,hall,hv⟩:=hrel;have iq:=ae hall;have nD:=ae hv;clear hall hv oP;by_cases hlt:q<o
    ·have hql:q<zs.length:=by rw [HO.out];exact hlt
     obtain ⟨y,hy⟩:∃y,zs[q]? =some y:=⟨_,bK hql⟩;obtain ⟨b,off,rfl,hbw,hcl⟩:∃b off,O=some ⟨b,off,none⟩/\b<w.heap.size/\∀j,j<zs.length->w.cell? ⟨b,off+j,none⟩=some (I (zs[j]?.getD 0)):=by
      rcases HI.out with h|h
      ·omega
      ·exact h
     have c0:wr.cell? ⟨b,off+q,none⟩=some (I y):=by rw [nD.out.up.cell (p:=⟨b,off+q,none⟩) hbw,hcl q hql,hy];rfl
     have hyr:=Ew.out y (gZ hy);rw [HM.out] at hyr;obtain ⟨r,rfl⟩:=Int.eq_ofNat_of_zero_le hyr.1;have hrm:r<m:=by omega
     obtain ⟨x,hx⟩:∃x,cs[r]? =some x:=⟨_,bK (by rw [HM.out];exact hrm)⟩;have hxm:=gZ hx;obtain ⟨g,goff,rfl,hgw,hgl⟩:=HC.out.row.there (by rw [List.length_map,HM.out];omega);have c1:wr.cell? ⟨g,goff+r,none⟩=some (.slice x.A x.ts.length x.c):=by
      rw [nD.out.up.cell (p:=⟨g,goff+r,none⟩) hgw];exact hgl r _ (by rw [List.getElem?_map,hx];rfl)
     have RV:=ae (HC.out.each x hxm);have HLX:=ae (HL.out x hxm);have HX:Hid (cs[((r:Nat):Int).toNat]? =some x):=ae hx;have HY:=ae hy;have i0:(0:Int)<=(q:Int):=by omega
     have i1:(q:Int)<(o:Int):=by omega
     have r0:(0:Int)<=(r:Int):=by omega
     have r1:(r:Int)<(m:Int):=by omega
     clear hql hcl hy hyr hx hxm hgl;go_wp2_with fail;refine (show Calls Tryz.prog _ _ wr _ from zh x.A x.c x.ts.length x.ts wr rfl HLX.out.1 ((RV.out.keep nD.out.up).more nD.out.up.size)).mono ?_;rintro e w3 ⟨p,bb,rfl,hp,hb3⟩;have hrg:=BM hp;have HP:=ae hp;have tY:=ae (nD.out.grow hb3);have c1':=(hb3.cell (p:=⟨g,goff+r,none⟩) (dP hgw nD.out.up.size)).trans c1;clear hb3 hp;have NEXT:Hid (pk cs name (r:Int)=none->∀(j:Nat) (y:Int),j<q+1->zs[j]? =some y->pk cs name y=none):=ae fun h0 j y hj hy=>by
      by_cases e:j=q
      ·subst e;have h1:=HY.out;rw [hy] at h1;injection h1 with h1;rw [h1];exact h0
      ·exact iq.out j y (by omega) hy
     cases bb with
     |false=>
      have FP:=ae (OT (name:=name) HX.out HP.out (by simp));clear hrg;go_wp2_with fail;go_roundw
      case rel=>exact ⟨q+1,by omega,by go_num,NEXT.out FP.out,tY.out⟩
      case measure=>simp [intOf];omega
     |true=>
      rcases hrg with hneg|⟨i,t,rfl,ht⟩
      ·have FP:=ae (OT (name:=name) HX.out HP.out (by omega));have q2:¬(0:Int)<=p:=by omega
       go_wp2_with fail;go_roundw
       case rel=>exact ⟨q+1,by omega,by go_num,NEXT.out FP.out,tY.out⟩
       case measure=>simp [intOf];omega
      ·have ht:=ht rfl;have OE:=gZ ht;have h68:=(RV.out.each t OE).size;have hil:i<x.ts.length:=(gQ.1 ht).1;obtain ⟨tb,toff,hta,htw,htab⟩:∃b off,x.A=some ⟨b,off,none⟩/\b<w.heap.size/\uh w b off x.ts:=by
        rcases Am RV.out with h0|h0
        ·omega
        ·exact h0
       have yf:Hid (w3.rangeAt tb (toff+i*68) t.cells):=ae (aS (htab i t ht).1 tY.out.up htw);have dU:Hid ((Tryz.prog.info? 26).map (·.size)=some t.cells.length):=ae (by rw [h68];kernel_rfl);have HTA:=ae (((RV.out.each t OE).keep tY.out.up).more tY.out.up.size);have HLT:=ae (HLX.out.2 t OE);have HPK:=ae (pk_at (name:=name) HX.out HP.out ht);have j0:(0:Int)<=(i:Int):=by omega
       obtain ⟨nx,hnx⟩:∃nx,x.ts.length=nx:=⟨_,rfl⟩;have j1:(i:Int)<(nx:Int):=by omega
       rw [hta,hnx] at c1';clear ht OE h68 hil htab hta hnx c1 c0;go_wp2_with ((with_reducible refine dY 26 ?_);refine wpList_load_mid rfl _ _ rfl tb (toff+i*68) rfl t.cells _ yf.out Tryz.underlying26 rfl dU.out ?_);refine (show Calls Tryz.prog _ #[.agg t.cells.toArray, .string name] w3 _ from Dy t t.zs.length name w3 rfl HLT.out.1 HLT.out.2 HTA.out).mono ?_;rintro e w4 ⟨hb4,⟨hno,rfl⟩|⟨z,s,hz,rfl,hzo,ez,hez,rfl⟩⟩
       ·have FP:Hid (pk cs name (r:Int)=none):=ae (by rw [HPK.out];exact hno);have DV:=ae (tY.out.grow hb4);clear hb4 hno;go_wp2_with (first
         |(with_reducible refine aZ 69 ?_;refine dm rfl _ rfl iH (by kernel_rfl) ?_)
         |((with_reducible refine bY 69 ?_);refine fQ rfl _ _ _ rfl iH rfl rfl 69 iH rfl mf rfl wZ ?_;intro W5 hb5 _ _;have HV5:=ae (DV.out.grow hb5);clear hb5))
        go_roundw
        case rel=>exact ⟨q+1,by omega,by go_num,NEXT.out FP.out,HV5.out⟩
        case measure=>simp [intOf];omega
       ·have HYES:Hid (pk cs name (r:Int)=some ez.z):=ae (by rw [HPK.out];exact hz);have DV:=ae (tY.out.grow hb4);have HZO:=ae hzo;have hlw:=tY.out.lt;have EF:Hid (jB ez.z):=ae (by
         have h1:=HTA.out.names;rw [h1] at hez;obtain ⟨v,hv,rfl⟩:=List.mem_map.1 hez;exact HLT.out.2 v hv)
        clear hb4 hzo hz hez;go_wp2_with (first
         |(with_reducible refine aZ 69 ?_;refine dm rfl _ rfl iH (by kernel_rfl) ?_)
         |((with_reducible refine bY 69 ?_);refine fQ rfl _ _ _ rfl (ay ez.z s) rfl rfl 69 iH rfl (l9 _ _) rfl (Dv _ _) ?_;intro W5 hb5 hl5 xw;have HV5:=ae (DV.out.grow hb5);have sV:=ae xw;have HZ5:=ae (HZO.out.aK hb5.size fun k _ h2=>hb5.block k h2);clear hb5 hl5 xw)
         |((with_reducible refine dY 69 ?_);refine aJ rfl _ _ rfl w4.heap.size rfl (ay ez.z s) sV.out _ Tryz.underlying69 rfl (l9 _ _) ?_)
         |((with_reducible refine bY 69 ?_);refine wpList_store_row rfl _ _ _ rfl w.heap.size (ay ez.z s) rfl rfl 69 iH HV5.out.res (l9 _ _) rfl (Dv _ _) ?_))
        refine bodyPost_ret (v:= .tuple #[.agg (ay ez.z s),I (r:Int),I 0]) (jV rfl _ _ w.heap.size _ (ay ez.z s) (0,0) _ rfl (setRow_heap _ _ _ _ _ _ HV5.out.res) Tryz.underlying69 rfl (l9 _ _) _ _ rfl rfl) rfl ?_;refine ⟨below_setRow HV5.out.up (Nat.le_refl _) _, .inr ⟨Ew.out, .inr ⟨q,(r:Int),ez.z,s,HY.out,HYES.out,iq.out,rfl,?_,EF.out⟩⟩⟩;exact (HZ5.out.aK (by simp [World.setRow]) fun k h1 _=>setRow_other _ _ k _ (by omega)).lower (by omega)
    ·have hqe:q=o:=by omega
     have HNONE:Hid (∀k∈zs,pk cs name k=none):=ae fun y hy=>by
      obtain ⟨j,hj⟩:=List.mem_iff_getElem?.1 hy;have h1:=(gQ.1 hj).1;exact iq.out j y (by have:=HO.out;omega) hj
     have hnl:¬(q:Int)<(o:Int):=by omega
     clear hqe hlt;go_wp2_with (first
      |((with_reducible refine fP 69 ?_);refine bz rfl _ rfl iH (by kernel_rfl) ?_)
      |((with_reducible refine bY 69 ?_);refine wpList_store_row rfl _ _ _ rfl w.heap.size iH rfl rfl 69 iH nD.out.res mf rfl wZ ?_))
     refine bodyPost_ret (v:= .tuple #[.agg iH,I 0,I 4]) (jV rfl _ _ w.heap.size _ iH (0,0) _ rfl (setRow_heap _ _ _ _ _ _ nD.out.res) Tryz.underlying69 rfl mf _ _ rfl rfl) rfl ?_;exact ⟨below_setRow nD.out.up (Nat.le_refl _) _, .inr ⟨Ew.out, .inl ⟨HNONE.out,rfl⟩⟩⟩
theorem neq_lr (a b:Int) (c:Bool) (W:World):(binOp .neq 118 (.agg #[I a,I b, .bool c]) (.agg #[I a,I b, .bool c])).run Tryz.prog W= .ok (.bool false) W:=by simp [go_sem]
theorem neq_tr (a b:Int) (W:World):(binOp .neq 108 (.agg #[I a,I b]) (.agg #[I a,I b])).run Tryz.prog W= .ok (.bool false) W:=by simp [go_sem]
theorem neq_yr (a b c d e:Int) (W:World):(binOp .neq 110 (.agg #[I a,I b,I c,I d,I e]) (.agg #[I a,I b,I c,I d,I e])).run Tryz.prog W= .ok (.bool false) W:=by simp [go_sem]
structure qp (w:World) (t:TypeId) (us vs:Array Value) (W:World):Prop where
 a:Row W w.heap.size us
 b:Row W (w.heap.size+1) vs
 up:Below w.heap.size w W
theorem qp.start (w:World) (t:TypeId) (us vs:Array Value):qp w t us vs ((w.alloc (.cells us t)).alloc (.cells vs t)):=
 ⟨Row.jH (heap_alloc2_old w _ _),Row.jH (heap_alloc2_new w _ _),ah (ag w _) (ag _ _)⟩
theorem qp.drew {w W:World} {t:TypeId} {us vs:Array Value} (h:qp w t us vs W) (q:Nat):qp w t us vs (W.drewN q):=
 ⟨h.a.keep (below_drewN' _ _),h.b.keep (below_drewN' _ _),ah h.up (below_drewN' _ _)⟩
theorem qp.below {w W W':World} {t:TypeId} {us vs:Array Value} (h:qp w t us vs W) (hb:Below W.heap.size W W'):qp w t us vs W':=
 ⟨h.a.keep hb,h.b.keep hb,ah h.up hb⟩
def Bq (w:World) (t:TypeId) (us vs:Array Value) (n:Nat) (i:Value) (wr:World):Prop:=∃k:Nat,k<=n/\i= .int .i64 k/\qp w t us vs wr
theorem G6 {w W:World} {A A':Option Addr} {α:Type} {s:Nat} {f:α->List Value} {xs:List α} (hs:∀x∈xs,(f x).length=s) (h:aA w w.heap.size A (xs.flatMap f)) (h':aA w w.heap.size A' (xs.flatMap f)) (hb:Below w.heap.size w W) (k:Nat) (hk:k<xs.length) (h0:0<s):
  ∃x b off b' off',xs[k]? =some x/\A=some ⟨b,off,none⟩/\A'=some ⟨b',off',none⟩/\W.rangeAt b (off+k*s) (f x)/\W.rangeAt b' (off'+k*s) (f x):=by
 have hl:0<(xs.flatMap f).length:=by rw [bZ f xs hs];exact Nat.mul_pos (by omega) h0
 obtain ⟨b,off,e1,hb1,hc1⟩:=h.there hl;obtain ⟨b',off',e2,hb2,hc2⟩:=h'.there hl;have hx:xs[k]? =some xs[k]:=bK hk;exact ⟨xs[k],b,off,b',off',hx,e1,e2,aS (aA.elem hs hc1 k _ hx) hb hb1,aS (aA.elem hs hc2 k _ hx) hb hb2⟩
theorem Qp (zs:List Int):zs.map I=zs.flatMap (fun z=> [I z]):=by
 induction zs with
 |nil=>rfl
 |cons z zs ih=>rw [List.map_cons,ih,List.flatMap_cons];rfl
theorem GK (c:Cal) (A1 A2 B1 B2:Option Addr) (a1 a2 b1 b2 n m:Nat) (w:World) (hn:c.au.length=n) (hm:c.rules.length=m) (hn1:n<=10000) (hmm:m<=10000) (hm1:aA w w.heap.size A1 (c.au.map I)) (hm2:aA w w.heap.size A2 (c.au.map I)) (hr1:aA w w.heap.size B1 (c.rules.flatMap Lr.cells)) (hr2:aA w w.heap.size B2 (c.rules.flatMap Lr.cells)):
  Calls Tryz.prog 57 #[.agg (aI c A1 a1 B1 b1), .agg (aI c A2 a2 B2 b2)] w (Gives (.bool true) w):=by
 rw [Qp] at hm1 hm2;have HC:Hid (aA w w.heap.size A1 (c.au.flatMap fun z=> [I z])/\aA w w.heap.size A2 (c.au.flatMap fun z=> [I z])/\aA w w.heap.size B1 (c.rules.flatMap Lr.cells)/\aA w w.heap.size B2 (c.rules.flatMap Lr.cells)):=ae ⟨hm1,hm2,hr1,hr2⟩;have HV:=ae (qp.start w 65 (aI c A1 a1 B1 b1) (aI c A2 a2 B2 b2));clear hm1 hm2 hr1 hr2;have g0:=HV.out.a.2;have g1:=HV.out.b.2;have p0:((w.alloc (.cells (aI c A1 a1 B1 b1) 65)).alloc (.cells (aI c A2 a2 B2 b2) 65)).cell? ⟨w.heap.size,0,none⟩=some (I c.bn):=g0 0;have p1:((w.alloc (.cells (aI c A1 a1 B1 b1) 65)).alloc (.cells (aI c A2 a2 B2 b2) 65)).cell? ⟨w.heap.size,1,none⟩=some (.slice A1 n a1):=by rw [g0 1,<-hn];rfl
 have p2:((w.alloc (.cells (aI c A1 a1 B1 b1) 65)).alloc (.cells (aI c A2 a2 B2 b2) 65)).cell? ⟨w.heap.size,2,none⟩=some (I c.dA):=g0 2;have p3:((w.alloc (.cells (aI c A1 a1 B1 b1) 65)).alloc (.cells (aI c A2 a2 B2 b2) 65)).cell? ⟨w.heap.size,3,none⟩=some (.slice B1 m b1):=by rw [g0 3,<-hm];rfl
 have q0:((w.alloc (.cells (aI c A1 a1 B1 b1) 65)).alloc (.cells (aI c A2 a2 B2 b2) 65)).cell? ⟨w.heap.size+1,0,none⟩=some (I c.bn):=g1 0;have q1:((w.alloc (.cells (aI c A1 a1 B1 b1) 65)).alloc (.cells (aI c A2 a2 B2 b2) 65)).cell? ⟨w.heap.size+1,1,none⟩=some (.slice A2 n a2):=by rw [g1 1,<-hn];rfl
 have q2:((w.alloc (.cells (aI c A1 a1 B1 b1) 65)).alloc (.cells (aI c A2 a2 B2 b2) 65)).cell? ⟨w.heap.size+1,2,none⟩=some (I c.dA):=g1 2;have q3:((w.alloc (.cells (aI c A1 a1 B1 b1) 65)).alloc (.cells (aI c A2 a2 B2 b2) 65)).cell? ⟨w.heap.size+1,3,none⟩=some (.slice B2 m b2):=by rw [g1 3,<-hm];rfl
 clear g0 g1;go_enter Tryz.func57,Tryz.ntmps57;go_wp2_with fail;clear p0 p1 p2 p3 q0 q1 q2 q3
 go_loopw [5] (fun i wr=>Bq w 65 (aI c A1 a1 B1 b1) (aI c A2 a2 B2 b2) n i wr) (fun i _=>n - (intOf i).toNat)
 case atStart=>exact ⟨0,Nat.zero_le _,rfl,HV.out⟩
 case round=>
  obtain ⟨k,hk,rfl,hv⟩:=hrel;have HW:=ae hv;clear hv;by_cases hlt:k<n
  ·obtain ⟨x,ba,oa,bc,oc,hx,e1,e2,hr1,hr2⟩:=G6 (s:=1) (f:=fun z=> [I z]) (xs:=c.au) (fun _ _=>rfl) HC.out.1 HC.out.2.1 HW.out.up k (by omega) (by omega);have v1:wr.cell? ⟨w.heap.size,1,none⟩=some (.slice (some ⟨ba,oa,none⟩) n a1):=by rw [HW.out.a.2 1,<-e1];exact (by rw [<-hn];rfl)
   have v2:wr.cell? ⟨w.heap.size+1,1,none⟩=some (.slice (some ⟨bc,oc,none⟩) n a2):=by rw [HW.out.b.2 1,<-e2];exact (by rw [<-hn];rfl)
   have c0:wr.cell? ⟨ba,oa+k,none⟩=some (I x):=by have h:=hr1 0 _ rfl;rwa [Nat.mul_one] at h
   have d0:wr.cell? ⟨bc,oc+k,none⟩=some (I x):=by have h:=hr2 0 _ rfl;rwa [Nat.mul_one] at h
   have i0:(0:Int)<=(k:Int):=by omega
   have i1:(k:Int)<(n:Int):=by omega
   clear hx e1 e2 hr1 hr2;go_wp2_with fail;go_quiet (fail);go_wp2_with fail;go_roundw
   case rel=>exact ⟨k+1,by omega,by go_num,HW.out.drew _⟩
   case measure=>simp [intOf];omega
  ·have hke:k=n:=by omega
   have hnl:¬(k:Int)<(n:Int):=by omega
   have v1:=HW.out.a.2 1;have u1:wr.cell? ⟨w.heap.size,1,none⟩=some (.slice A1 n a1):=by rw [v1,<-hn];rfl
   clear v1 hke hlt;have v3:=HW.out.a.2 3;have u3:wr.cell? ⟨w.heap.size,3,none⟩=some (.slice B1 m b1):=by rw [v3,<-hm];rfl
   clear v3;go_wp2_with fail;clear u3 hnl u1
   go_loopw [6] (fun i wr=>Bq w 65 (aI c A1 a1 B1 b1) (aI c A2 a2 B2 b2) m i wr) (fun i _=>m - (intOf i).toNat)
   case atStart=>exact ⟨0,Nat.zero_le _,rfl,HW.out⟩
   case round=>
    obtain ⟨k,hk,rfl,hv⟩:=hrel;have HW:=ae hv;clear hv;by_cases hlt:k<m
    ·obtain ⟨x,ba,oa,bc,oc,hx,e1,e2,hr1,hr2⟩:=G6 (s:=3) (f:=Lr.cells) (xs:=c.rules) (fun _ _=>rfl) HC.out.2.2.1 HC.out.2.2.2 HW.out.up k (by omega) (by omega);have v1:wr.cell? ⟨w.heap.size,3,none⟩=some (.slice (some ⟨ba,oa,none⟩) m b1):=by rw [HW.out.a.2 3,<-e1];exact (by rw [<-hm];rfl)
     have v2:wr.cell? ⟨w.heap.size+1,3,none⟩=some (.slice (some ⟨bc,oc,none⟩) m b2):=by rw [HW.out.b.2 3,<-e2];exact (by rw [<-hm];rfl)
     have c0:wr.cell? ⟨ba,oa+k*3,none⟩=some (I x.every):=hr1 0 _ rfl;have d0:wr.cell? ⟨bc,oc+k*3,none⟩=some (I x.every):=hr2 0 _ rfl;have c1:wr.cell? ⟨ba,oa+k*3+1,none⟩=some (I x.rest):=hr1 1 _ rfl;have d1:wr.cell? ⟨bc,oc+k*3+1,none⟩=some (I x.rest):=hr2 1 _ rfl;have c2:wr.cell? ⟨ba,oa+k*3+2,none⟩=some (.bool x.yes):=hr1 2 _ rfl;have d2:wr.cell? ⟨bc,oc+k*3+2,none⟩=some (.bool x.yes):=hr2 2 _ rfl;have i0:(0:Int)<=(k:Int):=by omega
     have i1:(k:Int)<(m:Int):=by omega
     have hq:=fun W=>neq_lr x.every x.rest x.yes W;clear hx e1 e2 hr1 hr2;go_wp2_with fail;go_quiet (fail);go_wp2_with fail;go_roundw
     case rel=>exact ⟨k+1,by omega,by go_num,HW.out.drew _⟩
     case measure=>simp [intOf];omega
    ·have hke:k=m:=by omega
     have hnl:¬(k:Int)<(m:Int):=by omega
     have v1:=HW.out.a.2 3;have u1:wr.cell? ⟨w.heap.size,3,none⟩=some (.slice B1 m b1):=by rw [v1,<-hm];rfl
     clear v1 hke hlt;go_wp2_with fail;go_ret;exact ⟨rfl,HW.out.up⟩
theorem vY (z:Zn) (s1 s2:Zs) (n m:Nat) (w:World) (hl:jB z) (hn:z.trans.length=n) (hm:z.aH.length=m) (h1:iP w w.heap.size s1 z) (h2:iP w w.heap.size s2 z):
  Calls Tryz.prog 34 #[.agg (ay z s1), .agg (ay z s2)] w (Gives (.bool true) w):=by
 have hn1:n<=10000:=by have:=hl.trans;omega
 have hmm:m<=10000:=by have:=hl.aH;omega
 have HC:Hid (iP w w.heap.size s1 z/\iP w w.heap.size s2 z):=ae ⟨h1,h2⟩;have HV:=ae (qp.start w 69 (ay z s1) (ay z s2));have yc:Hid (Calls Tryz.prog 57 #[.agg #[I z.cal.bn, .slice s1.A z.cal.au.length s1.a,I z.cal.dA, .slice s1.B z.cal.rules.length s1.b], .agg #[I z.cal.bn, .slice s2.A z.cal.au.length s2.a,I z.cal.dA, .slice s2.B z.cal.rules.length s2.b]] ((w.alloc (.cells (ay z s1) 69)).alloc (.cells (ay z s2) 69)) (Gives (.bool true) ((w.alloc (.cells (ay z s1) 69)).alloc (.cells (ay z s2) 69)))):=
  ae (GK z.cal s1.A s2.A s1.B s2.B s1.a s2.a s1.b s2.b _ _ ((w.alloc (.cells (ay z s1) 69)).alloc (.cells (ay z s2) 69)) rfl rfl hl.au hl.rules (h1.au.keep HV.out.up |>.more HV.out.up.size) (h2.au.keep HV.out.up |>.more HV.out.up.size) (h1.rules.keep HV.out.up |>.more HV.out.up.size) (h2.rules.keep HV.out.up |>.more HV.out.up.size))
 clear h1 h2 hl;have g0:=HV.out.a.2;have g1:=HV.out.b.2;have p0:((w.alloc (.cells (ay z s1) 69)).alloc (.cells (ay z s2) 69)).cell? ⟨w.heap.size,0,none⟩=some (I z.cal.bn):=g0 0;have p1:((w.alloc (.cells (ay z s1) 69)).alloc (.cells (ay z s2) 69)).cell? ⟨w.heap.size,1,none⟩=some (.slice s1.A z.cal.au.length s1.a):=g0 1;have p2:((w.alloc (.cells (ay z s1) 69)).alloc (.cells (ay z s2) 69)).cell? ⟨w.heap.size,2,none⟩=some (I z.cal.dA):=g0 2;have p3:((w.alloc (.cells (ay z s1) 69)).alloc (.cells (ay z s2) 69)).cell? ⟨w.heap.size,3,none⟩=some (.slice s1.B z.cal.rules.length s1.b):=g0 3;have p4:((w.alloc (.cells (ay z s1) 69)).alloc (.cells (ay z s2) 69)).cell? ⟨w.heap.size,4,none⟩=some (I z.start):=g0 4;have p5:((w.alloc (.cells (ay z s1) 69)).alloc (.cells (ay z s2) 69)).cell? ⟨w.heap.size,5,none⟩=some (.slice s1.C n s1.c):=by rw [g0 5,<-hn];rfl
 have p6:((w.alloc (.cells (ay z s1) 69)).alloc (.cells (ay z s2) 69)).cell? ⟨w.heap.size,6,none⟩=some (I z.hor):=g0 6;have p7:((w.alloc (.cells (ay z s1) 69)).alloc (.cells (ay z s2) 69)).cell? ⟨w.heap.size,7,none⟩=some (.slice s1.D m s1.d):=by rw [g0 7,<-hm];rfl
 have q0:((w.alloc (.cells (ay z s1) 69)).alloc (.cells (ay z s2) 69)).cell? ⟨w.heap.size+1,0,none⟩=some (I z.cal.bn):=g1 0;have q1:((w.alloc (.cells (ay z s1) 69)).alloc (.cells (ay z s2) 69)).cell? ⟨w.heap.size+1,1,none⟩=some (.slice s2.A z.cal.au.length s2.a):=g1 1;have q2:((w.alloc (.cells (ay z s1) 69)).alloc (.cells (ay z s2) 69)).cell? ⟨w.heap.size+1,2,none⟩=some (I z.cal.dA):=g1 2;have q3:((w.alloc (.cells (ay z s1) 69)).alloc (.cells (ay z s2) 69)).cell? ⟨w.heap.size+1,3,none⟩=some (.slice s2.B z.cal.rules.length s2.b):=g1 3;have q4:((w.alloc (.cells (ay z s1) 69)).alloc (.cells (ay z s2) 69)).cell? ⟨w.heap.size+1,4,none⟩=some (I z.start):=g1 4;have q5:((w.alloc (.cells (ay z s1) 69)).alloc (.cells (ay z s2) 69)).cell? ⟨w.heap.size+1,5,none⟩=some (.slice s2.C n s2.c):=by rw [g1 5,<-hn];rfl
 have q6:((w.alloc (.cells (ay z s1) 69)).alloc (.cells (ay z s2) 69)).cell? ⟨w.heap.size+1,6,none⟩=some (I z.hor):=g1 6;have q7:((w.alloc (.cells (ay z s1) 69)).alloc (.cells (ay z s2) 69)).cell? ⟨w.heap.size+1,7,none⟩=some (.slice s2.D m s2.d):=by rw [g1 7,<-hm];rfl
 clear g0 g1;go_enter Tryz.func34,Tryz.ntmps34;go_wp2_with fail;clear p0 p1 p2 p3 p4 p5 p6 p7 q0 q1 q2 q3 q4 q5 q6 q7;refine yc.out.mono ?_;rintro e w2 ⟨rfl,hb2⟩;have nD:=ae (HV.out.below hb2);have t1:w2.cell? ⟨w.heap.size,5,none⟩=some (.slice s1.C n s1.c):=by rw [nD.out.a.2 5,<-hn];rfl
 clear hb2 yc HV;go_wp2_with fail;clear t1
 go_loopw [5] (fun i wr=>Bq w 69 (ay z s1) (ay z s2) n i wr) (fun i _=>n - (intOf i).toNat)
 case atStart=>exact ⟨0,Nat.zero_le _,rfl,nD.out⟩
 case round=>
  obtain ⟨k,hk,rfl,hv⟩:=hrel;have HW:=ae hv;clear hv;by_cases hlt:k<n
  ·obtain ⟨x,ba,oa,bc,oc,hx,e1,e2,hr1,hr2⟩:=G6 (s:=2) (f:=Tr.cells) (xs:=z.trans) (fun _ _=>rfl) HC.out.1.trans HC.out.2.trans HW.out.up k (by omega) (by omega);have v1:wr.cell? ⟨w.heap.size,5,none⟩=some (.slice (some ⟨ba,oa,none⟩) n s1.c):=by rw [HW.out.a.2 5,<-e1];exact (by rw [<-hn];rfl)
   have v2:wr.cell? ⟨w.heap.size+1,5,none⟩=some (.slice (some ⟨bc,oc,none⟩) n s2.c):=by rw [HW.out.b.2 5,<-e2];exact (by rw [<-hn];rfl)
   have c0:wr.cell? ⟨ba,oa+k*2,none⟩=some (I x.at_):=hr1 0 _ rfl;have d0:wr.cell? ⟨bc,oc+k*2,none⟩=some (I x.at_):=hr2 0 _ rfl;have c1:wr.cell? ⟨ba,oa+k*2+1,none⟩=some (I x.off):=hr1 1 _ rfl;have d1:wr.cell? ⟨bc,oc+k*2+1,none⟩=some (I x.off):=hr2 1 _ rfl;have i0:(0:Int)<=(k:Int):=by omega
   have i1:(k:Int)<(n:Int):=by omega
   have hq:=fun W=>neq_tr x.at_ x.off W;clear hx e1 e2 hr1 hr2;go_wp2_with fail;go_quiet (fail);go_wp2_with fail;go_roundw
   case rel=>exact ⟨k+1,by omega,by go_num,HW.out.drew _⟩
   case measure=>simp [intOf];omega
  ·have hke:k=n:=by omega
   have hnl:¬(k:Int)<(n:Int):=by omega
   have v1:=HW.out.a.2 5;have u1:wr.cell? ⟨w.heap.size,5,none⟩=some (.slice s1.C n s1.c):=by rw [v1,<-hn];rfl
   clear v1 hke hlt;have v3:=HW.out.a.2 7;have u3:wr.cell? ⟨w.heap.size,7,none⟩=some (.slice s1.D m s1.d):=by rw [v3,<-hm];rfl
   clear v3;go_wp2_with fail;clear u3 hnl u1
   go_loopw [6] (fun i wr=>Bq w 69 (ay z s1) (ay z s2) m i wr) (fun i _=>m - (intOf i).toNat)
   case atStart=>exact ⟨0,Nat.zero_le _,rfl,HW.out⟩
   case round=>
    obtain ⟨k,hk,rfl,hv⟩:=hrel;have HW:=ae hv;clear hv;by_cases hlt:k<m
    ·obtain ⟨x,ba,oa,bc,oc,hx,e1,e2,hr1,hr2⟩:=G6 (s:=5) (f:=Yr.cells) (xs:=z.aH) (fun _ _=>rfl) HC.out.1.aH HC.out.2.aH HW.out.up k (by omega) (by omega);have v1:wr.cell? ⟨w.heap.size,7,none⟩=some (.slice (some ⟨ba,oa,none⟩) m s1.d):=by rw [HW.out.a.2 7,<-e1];exact (by rw [<-hm];rfl)
     have v2:wr.cell? ⟨w.heap.size+1,7,none⟩=some (.slice (some ⟨bc,oc,none⟩) m s2.d):=by rw [HW.out.b.2 7,<-e2];exact (by rw [<-hm];rfl)
     have c0:wr.cell? ⟨ba,oa+k*5,none⟩=some (I x.month):=hr1 0 _ rfl;have d0:wr.cell? ⟨bc,oc+k*5,none⟩=some (I x.month):=hr2 0 _ rfl;have c1:wr.cell? ⟨ba,oa+k*5+1,none⟩=some (I x.cZ):=hr1 1 _ rfl;have d1:wr.cell? ⟨bc,oc+k*5+1,none⟩=some (I x.cZ):=hr2 1 _ rfl;have c2:wr.cell? ⟨ba,oa+k*5+2,none⟩=some (I x.dh):=hr1 2 _ rfl;have d2:wr.cell? ⟨bc,oc+k*5+2,none⟩=some (I x.dh):=hr2 2 _ rfl;have c3:wr.cell? ⟨ba,oa+k*5+3,none⟩=some (I x.minute):=hr1 3 _ rfl;have d3:wr.cell? ⟨bc,oc+k*5+3,none⟩=some (I x.minute):=hr2 3 _ rfl;have c4:wr.cell? ⟨ba,oa+k*5+4,none⟩=some (I x.off):=hr1 4 _ rfl;have d4:wr.cell? ⟨bc,oc+k*5+4,none⟩=some (I x.off):=hr2 4 _ rfl;have i0:(0:Int)<=(k:Int):=by omega
     have i1:(k:Int)<(m:Int):=by omega
     have hq:=fun W=>neq_yr x.month x.cZ x.dh x.minute x.off W;clear hx e1 e2 hr1 hr2;go_wp2_with fail;go_quiet (fail);go_wp2_with fail;go_roundw
     case rel=>exact ⟨k+1,by omega,by go_num,HW.out.drew _⟩
     case measure=>simp [intOf];omega
    ·have hke:k=m:=by omega
     have hnl:¬(k:Int)<(m:Int):=by omega
     have v1:=HW.out.a.2 7;have u1:wr.cell? ⟨w.heap.size,7,none⟩=some (.slice s1.D m s1.d):=by rw [v1,<-hm];rfl
     clear v1 hke hlt;go_wp2_with fail;go_ret;exact ⟨rfl,HW.out.up⟩
def I9 (d:Int):Int:=if d%7=0 then d else 7*d
def Kq (z:Zn):Int:=match z.aH with| []=>1|_::_=>I9 (cycD z.cal)
theorem jD.alloc {w W:World} {cs:Array Value} (h:jD w cs W) (o:Obj):jD w cs (W.alloc o):=h.grow (ag W o)
def gI (wd wk:Int):Nat->Int->Int->Int->Int×Bool
 |0,_,_,last=>(last,wk==5&&decide (0<=last))
 |n+1,d,cn,last=>if d%7=wd then (if cn+1=wk/\wk<5 then (d,true) else gI wd wk n (d+1) (cn+1) d) else gI wd wk n (d+1) cn last
def firstF (c:Cal) (bg y mo:Int):Int:=if mo=2 then bg+Ux c y 1 else bg
def findF (c:Cal) (bg y:Int) (r:Yr):Int×Bool:=gI r.dh r.cZ (Ux c y r.month).toNat (firstF c bg y r.month) 0 (-1)
theorem qp.NF (w:World) (t t1 t2:TypeId) (us vs:Array Value):qp w t us vs ((w.alloc (.cells us t1)).alloc (.cells vs t2)):=
 ⟨Row.jH (heap_alloc2_old w _ _),Row.jH (heap_alloc2_new w _ _),ah (ag w _) (ag _ _)⟩
def FRel (w:World) (us vs:Array Value) (wd wk fs:Int) (n:Nat) (res:Int×Bool) (c l d:Value) (wr:World):Prop:=
 ∃j:Nat,∃cn la:Int,j<=n/\c= .int .i64 cn/\l= .int .i64 la/\d= .int .i64 (fs+j)/\0<=cn/\cn<=j/\ -1<=la/\la<=fs+j/\gI wd wk (n - j) (fs+j) cn la=res/\qp w 0 us vs wr
theorem QF {wd wk:Int} {n j:Nat} {d cn la:Int} {res:Int×Bool} (h:gI wd wk (n - j) d cn la=res) (hj:n<=j):res=(la,wk==5&&decide (0<=la)):=by
 rw [Nat.sub_eq_zero_of_le hj] at h;exact h.symm
theorem QE {wd wk fs:Int} {n j:Nat} {cn la:Int} {res:Int×Bool} (h:gI wd wk (n - j) (fs+j) cn la=res) (hj:j<n) (ht:((fs+j)%7==wd)=false):gI wd wk (n - (j+1)) (fs+((j+1:Nat):Int)) cn la=res:=by
 rw [show n - j=(n - (j+1))+1 by omega,gI,if_neg (by simpa using ht)] at h;rw [show fs+((j+1:Nat):Int)=fs+(j:Int)+1 by omega];exact h
theorem UU {wd wk fs:Int} {n j:Nat} {cn la:Int} {res:Int×Bool} (h:gI wd wk (n - j) (fs+j) cn la=res) (hj:j<n) (ht:((fs+j)%7==wd)=true) (hu:cn+1=wk/\wk<5):res=(fs+j,true):=by
 rw [show n - j=(n - (j+1))+1 by omega,gI,if_pos (by simpa using ht),if_pos hu] at h;exact h.symm
theorem Fg {wd wk fs:Int} {n j:Nat} {cn la:Int} {res:Int×Bool} (h:gI wd wk (n - j) (fs+j) cn la=res) (hj:j<n) (ht:((fs+j)%7==wd)=true) (hu:¬(cn+1=wk/\wk<5)):gI wd wk (n - (j+1)) (fs+((j+1:Nat):Int)) (cn+1) (fs+j)=res:=by
 rw [show n - j=(n - (j+1))+1 by omega,gI,if_pos (by simpa using ht),if_neg hu] at h;rw [show fs+((j+1:Nat):Int)=fs+(j:Int)+1 by omega];exact h
def vK (ts:List Tr) (t:Tr):Nat->Nat
 |0=>0
 |k+1=>if t.at_<(ts[k]?.map (·.at_)).getD 0 then vK ts t k else k+1
def rP (ts:List Tr) (t:Tr):List Tr:=ts.take (vK ts t ts.length)++t::ts.drop (vK ts t ts.length)
theorem OV (ts:List Tr) (t:Tr) (k:Nat):vK ts t k<=k:=by
 induction k with
 |zero=>exact Nat.le_refl _
 |succ k ih=>unfold vK;split<;>omega
theorem BV (ts:List Tr) (t:Tr):(rP ts t).length=ts.length+1:=by
 have:=OV ts t ts.length;simp [rP];omega
def BU (ts:List Tr) (t:Tr) (k:Nat):List Value:=(ts.take k++t::ts.drop k).flatMap Tr.cells
theorem Ug (ts:List Tr) (t:Tr):BU ts t ts.length=ts.flatMap Tr.cells++ [I t.at_,I t.off]:=by
 simp [BU,List.take_length,List.drop_length,Tr.cells]
theorem swap4 (P R:List Value) (q:Nat) (a0 a1 t0 t1:Value) (h:P.length=q*2):
  ((((P++a0::a1::t0::t1::R).set ((q+1)*2) a0).set ((q+1)*2+1) a1).set (q*2) t0).set (q*2+1) t1=P++t0::t1::a0::a1::R:=by
 rw [List.set_append_right _ _ (by omega),List.set_append_right _ _ (by omega),List.set_append_right _ _ (by omega),List.set_append_right _ _ (by omega)];rw [h,show (q+1)*2 - q*2=2 by omega,show (q+1)*2+1 - q*2=3 by omega,show q*2 - q*2=0 by omega,show q*2+1 - q*2=1 by omega];rfl
theorem take_at (ts:List Tr) (q:Nat) (hq:q<ts.length):∃x,ts[q]? =some x/\ts.take (q+1)=ts.take q++ [x]/\ts.drop q=x::ts.drop (q+1):=
 ⟨ts[q],bK hq,by rw [List.take_succ_eq_append_getElem hq],by rw [List.drop_eq_getElem_cons hq]⟩
theorem EW (ts:List Tr) (t x:Tr) (q:Nat) (hq:q<ts.length) (hx:ts[q]? =some x):
  BU ts t (q+1)=(ts.take q).flatMap Tr.cells++I x.at_::I x.off::I t.at_::I t.off::(ts.drop (q+1)).flatMap Tr.cells/\
  BU ts t q=(ts.take q).flatMap Tr.cells++I t.at_::I t.off::I x.at_::I x.off::(ts.drop (q+1)).flatMap Tr.cells/\((ts.take q).flatMap Tr.cells).length=q*2:=by
 obtain ⟨x',h1,h2,h3⟩:=take_at ts q hq;rw [hx] at h1;injection h1 with h1;subst h1;refine ⟨by simp [BU,h2,Tr.cells],by simp [BU,h3,Tr.cells],?_⟩;rw [bZ (s:=2) Tr.cells _ (fun _ _=>rfl),List.length_take,Nat.min_eq_left (by omega)]
def iO (lo:Nat) (w:World) (A:Option Addr) (n c:Nat) (ts:List Tr):Prop:=w.ownsRow lo 108 2 (.slice A n c) n (ts.flatMap Tr.cells)
def InsP (lo n:Nat) (w:World) (ts:List Tr) (e:Ending) (w':World):Prop:=∃A c,e= .returned (.slice A n c)/\iO lo w' A n c ts/\Below lo w w'
theorem Tf {lo:Nat} {w w':World} {row:Option Nat} (h:w.grownBy w' row) (hr:∀g,row=some g->lo<=g) (hlo:lo<=w.heap.size):Below lo w w':=
 ⟨h.os,h.tape,h.output,h.size,fun k hk=>h.block k (by omega) (fun e=>by have:=hr k e.symm;omega)⟩
theorem JX {lo:Nat} {w:World} {A:Option Addr} {n c:Nat} {ts:List Tr} (h:iO lo w A n c ts):∀g,(Value.slice A n c).ownBlock=some g->lo<=g:=fun g hg=>(World.ownsRow.lt h g hg).1
structure InR (lo:Nat) (W:World) (g c n:Nat) (ts:List Tr) (t:Tr) (k:Nat) (wr:World):Prop where
 own:wr.ownsRow lo 108 2 (.slice (some ⟨g,0,none⟩) (n+1) c) (n+1) (BU ts t k)
 up:Below lo W wr
theorem Vf (w:World) (o:Obj) (a b:Value) (t:TypeId):∀j u,[a,b][j]? =some u->((w.alloc o).alloc (.cells #[a,b] t)).cell? ((⟨w.heap.size+1,0,none⟩:Addr).add j)=some u:=by
 have h:=cell_two_new (w.alloc o) a b t;simpa using h
def InRel (lo:Nat) (W:World) (g c n:Nat) (ts:List Tr) (t:Tr) (i:Value) (wr:World):Prop:=∃k:Nat,k<=n/\i= .int .i64 k/\vK ts t k=vK ts t n/\InR lo W g c n ts t k wr
theorem InR.swap {lo g c n q:Nat} {W W2:World} {ts:List Tr} {Ap DL Fq YX:Int} (h:InR lo W g c n ts ⟨Ap,DL⟩ (q+1) W2) (hlo:lo<=W.heap.size) (hq:q<ts.length) (hx:ts[q]? =some ⟨Fq,YX⟩) (o:Obj):
  InR lo W g c n ts ⟨Ap,DL⟩ q (((((W2.setCell ⟨g,(q+1)*2,none⟩ (I Fq)).setCell ⟨g,(q+1)*2+1,none⟩ (I YX)).setCell ⟨g,q*2,none⟩ (I Ap)).setCell ⟨g,q*2+1,none⟩ (I DL)).alloc o):=by
 obtain ⟨s1,s2,s3⟩:=EW ts ⟨Ap,DL⟩ ⟨Fq,YX⟩ q hq hx;have h1:=(((((((h.own.stored ((q+1)*2) (I Fq)).1.stored ((q+1)*2+1) (I YX)).1).stored (q*2) (I Ap)).1).stored (q*2+1) (I DL)).1).alloc o;have hg:lo<=g:=(World.ownsRow.lt h.own g rfl).1;refine ⟨?_,((((h.up.setCell (p:=⟨g,(q+1)*2,none⟩) hg _).setCell (p:=⟨g,(q+1)*2+1,none⟩) hg _).setCell (p:=⟨g,q*2,none⟩) hg _).setCell (p:=⟨g,q*2+1,none⟩) hg _).alloc (Nat.le_trans hlo (by have:=h.up.size;simpa using this)) o⟩;rw [s1,swap4 _ _ _ _ _ _ _ s3,<-s2] at h1;exact h1
theorem OU {ts:List Tr} {t x:Tr} {q:Nat} (hx:ts[q]? =some x) (h:t.at_<x.at_):vK ts t (q+1)=vK ts t q:=by
 rw [vK,hx,if_pos (by simpa using h)]
theorem Fa {ts:List Tr} {t x:Tr} {q:Nat} (hx:ts[q]? =some x) (h:¬t.at_<x.at_):vK ts t (q+1)=q+1:=by
 rw [vK,hx,if_neg (by simpa using h)]
end Go.Proofs.YtbaehbbonkljpaaGreatDoor
