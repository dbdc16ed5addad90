/- The texts Oi, Wm, Oj, Fa, Ld, Lea, in this order. -/
import Derived.Test.YtbaehbbonkljpaaGreatDoorT23
import Derived.Test.YtbaehbbonkljpaaGreatDoorT38
set_option maxRecDepth 10000
set_option maxHeartbeats 8000000
namespace Go.Proofs.YtbaehbbonkljpaaGreatDoor
open Go Go.RowKit
theorem JS.pre {w:ae}{B:Nat}{A:aj Addr}{cs ds:ag ah}(h:JS w B A (cs++ds)):JS w B A cs:=by
 rcases h with h|⟨b,off,h1,h2,h3⟩
 ·exact .inl (by rw[KN] at h;omega)
 ·exact .inr ⟨b,off,h1,h2,fun j u hu=>h3 j u (by rw[dZ (MF.1 hu).1];exact hu)⟩
theorem LJ.take {w:ae}{B:Nat}{A:aj Addr}{ts:ag Kv}(h:LJ w B A ts)(k:Nat):LJ w B A (ts.take k):=by
 refine⟨JS.pre (ds:=(ts.drop k).flatMap Kv.cells) ?_,fun x hx=>h.each x (dP hx)⟩;rw[<-eG,dR];exact h.row
structure CkW (w:ae)(key:ag au)(W:ae):Prop where
 bx:AV w.heap.size 24 (cellsB key) W
 lo:ai w.heap.size w W
theorem CkW.grow {w W W':ae}{key:ag au}(h:CkW w key W)(hb:ai W.heap.size W W'):CkW w key W':=⟨h.bx.below hb,JL h.lo hb⟩
def CkG (ts:ag Kv)(F:Nat->Int)(r:Int):Prop:=
 (r=0/\∀k x,ts[k]? =some x->F k=0)\/
 (¬r=0/\∃k x,ts[k]? =some x/\F k=r/\∀j y,j<k->ts[j]? =some y->F j=0)
theorem aii (w:ae)(key:ag au)(hk:key.length=32)
  (C:aj Addr)(m cc:Nat)(ts:ag Kv)(hm:ts.length=m)(hm1:m<=64)(hcc:m<=cc)(hC:LJ w w.heap.size C ts)(F:Nat->Int)
  (HAD:Hid (∀k x,ts[k]? =some x->(∀j y,j<k->ts[j]? =some y->F j=0)->∀W,ai w.heap.size w W->Calls Tryz.prog 35 #[.slice C k cc,.agg (JO key).toArray,.agg x.cells.toArray] W (Gives (I (F k)) W))):
  Calls Tryz.prog 19 #[.slice C m cc,.agg (cellsB key)] w (fun e w'=>∃r,e=.returned (I r)/\CkG ts F r/\ai w.heap.size w w'):=by
 have H0:Hid (CkW w key (w.alloc (.cells (cellsB key) 24))):=JJ ⟨AV.new w _ _,JM w _⟩;have HI2:Hid ((Tryz.prog.info? 24).map (·.size)=some (JO key).length):=JJ (by have:=Na key hk;rw[this];simp[cellsB]);have QJ:Hid ((JO key).length=32):=JJ (by simp[JO,hk]);have HUD:Hid (Tryz.prog.underlying 24=some (.array 32 5)):=JJ aK;have Qc:=JJ hm;have HC:=JJ hC;have HTA:=JJ (OG hC);clear hk hm hC;go_enter Tryz.func19,Tryz.ntmps19;go_upto_region 1 with fail;generalize w.alloc (.cells (cellsB key) 24)=W0 at H0⊢;go_wp2_with fail
 go_loopw [10] (fun i wr=>∃k:Nat,k<=m/\i=I k/\(∀j y,j<k->ts[j]? =some y->F j=0)/\CkW w key wr) (fun i _=>m - (intOf i).toNat)
 case atStart=>exact⟨0,aG _,rfl,fun _ _ h=>absurd h (fD _),H0.out⟩
 case round=>
  obtain⟨k,hk,rfl,hz,hp⟩:=hrel;have HP:=JJ hp;have HZ:=JJ hz;have hlt0:=hp.bx.lt;clear hp H0;by_cases hlt:k<m
  ·have hkl:k<ts.length:=by rw[Qc.out];exact hlt
   obtain⟨x,hx⟩:∃x,ts[k]? =some x:=⟨_,KL hkl⟩;have hxm:=LQ hx;obtain⟨cb,co,rfl,hcb,hTA⟩:∃b off,C=some ⟨b,off,none⟩/\b<w.heap.size/\OC w b off ts:=by
    rcases HTA.out with h1|h1
    ·omega
    ·exact h1
   have hxa:=HC.out.each x hxm;have HX:=JJ hx;have PU:=JJ (HAD.out k x hx hz);have Uj:Hid (wr.rangeAt cb (co+k*68) x.cells):=JJ (JY (hTA k x hx).1 HP.out.lo hcb);have Ud:Hid ((Tryz.prog.info? 26).map (·.size)=some x.cells.length):=JJ (by rw[(hTA k x hx).2];kernel_rfl);have HXL:=JJ (hTA k x hx).2;have UZ:Hid ((Tryz.prog.info? 26).map (·.size)=some x.cells.toArray.size):=JJ (Ky x.t _ hxa.prev hxa.Ku);have HXZ:Hid ((JK J8 (.slice none 0 0)).size=x.cells.toArray.size):=JJ ((Kq J8 _ rfl rfl).trans (Kq x.t (.slice x.A x.zs.length x.c) hxa.prev hxa.Ku).symm);have HXO:Hid (x.cells.toArray.all (·.oneCell')=true):=JJ (J9 _ _ _ _);have Yw:=JJ (aF wr (.cells (JK J8 (.slice none 0 0)) 26));have YJ:Hid (AV wr.heap.size 26 x.cells.toArray ((wr.alloc (.cells (JK J8 (.slice none 0 0)) 26)).setRow wr.heap.size x.cells.toArray)):=JJ ⟨aQ _ _ _ _ _ _ Yw.out⟩;have HQ:=JJ (HP.out.grow (JR (JM wr (.cells (JK J8 (.slice none 0 0)) 26)) (ay _) x.cells.toArray));have i1:(0:Int)<=(k:Int):=by omega
   have i2:(k:Int)<(m:Int):=by omega
   have i3:(k:Int)<=(cc:Int):=by omega
   have i4:¬(cc:Int)<(k:Int):=by omega
   clear hx hxm hTA hxa hkl hz;go_wp2_with(first
    |((with_reducible refine KO 26 ?_);refine Kt rfl _ _ rfl cb (co+k*68) rfl x.cells Uj.out _ az rfl Ud.out ?_)
    |((with_reducible refine Kz 26 ?_);refine JW rfl _ rfl (JK J8 (.slice none 0 0)) aoF ?_)
    |((with_reducible refine KZ 26 ?_);refine aB rfl _ _ _ rfl wr.heap.size x.cells.toArray rfl rfl 26 (JK J8 (.slice none 0 0)) Yw.out UZ.out HXZ.out HXO.out ?_))
   generalize (wr.alloc (.cells (JK J8 (.slice none 0 0)) 26)).setRow wr.heap.size x.cells.toArray=wq at YJ HQ⊢;have HS:Hid (wq.drew.rangeAt w.heap.size 0 (JO key)/\wq.drew.rangeAt wr.heap.size 0 x.cells):=JJ ⟨fun j v hv=>by rw[aT];exact(HQ.out.bx.cell j).trans (by simpa[cellsB] using hv),fun j v hv=>by rw[aT];exact(YJ.out.cell j).trans (by simpa using hv)⟩;have hud:=HUD.out;have hi2:=HI2.out;have hi3:=Ud.out;have hl1:=QJ.out;have hl2:=HXL.out;refine dG (S:=fun w'=>w'.rangeAt w.heap.size 0 (JO key)/\w'.rangeAt wr.heap.size 0 x.cells) (by kernel_rfl) HS.out (fun hH=>?_);refine JZ 0 (.slice (some ⟨cb,co,none⟩) m cc) 15 hH ?_;refine JZ 1 (I k) 16 hH ?_;refine JZ 2 (.slice (some ⟨cb,co,none⟩) k cc) 17 hH ?_;refine LG 3 _ 18 rfl rfl hH (bF (by rfl) _ _ rfl w.heap.size 0 rfl (JO key) _ (fun _ hW=>hW.1) hud rfl hi2) ?_;refine LG 4 _ 19 rfl rfl hH (bF (by rfl) _ _ rfl wr.heap.size 0 rfl x.cells _ (fun _ hW=>hW.2) az rfl hi3) ?_;clear hH;refine KX 5 (fun K hK=>?_);go_simp;go_at_call 35;refine(PU.out wq.drew HQ.out.lo.drew).mono ?_;obtain⟨r,hr⟩:∃r,F k=r:=⟨_,rfl⟩;rw[hr];have HR:=JJ hr;clear hr;rintro e w3 ⟨rfl,hb3⟩;have Zf:Hid (CkW w key w3):=JJ (HQ.out.grow (lg ((aW _ wq).drew) hb3));have Qi:Hid (w3.rangeAt w.heap.size 0 (JO key)/\w3.rangeAt wr.heap.size 0 x.cells):=JJ ⟨JY HS.out.1 hb3 HQ.out.bx.lt,JY HS.out.2 hb3 YJ.out.lt⟩;clear hb3;refine hK.out _ _ Qi.out (fun hH=>?_);clear hK K;refine JZ 6 (I r) 7 hH ?_;clear hH;refine dC (by kernel_rfl) ?_ _;clear Qi HS YJ HQ Uj Yw hud hi2 hi3 hl1 hl2;by_cases h0:r=0
   ·subst h0;go_wp2_with fail;go_roundw
    case rel=>exact⟨k+1,by omega,by go_num,fun j y hj hy=>by
     by_cases hjk:j<k
     ·exact HZ.out j y hjk hy
     ·obtain rfl:j=k:=by omega
      exact HR.out,Zf.out⟩
    case measure=>simp[intOf];omega
   ·go_wp2_with fail;go_ret;exact⟨r,rfl,.inr ⟨h0,k,x,HX.out,HR.out,HZ.out⟩,Zf.out.lo⟩
  ·have hlt':¬(k:Int)<(m:Int):=by omega
   go_wp2_with fail;go_ret;exact⟨0,rfl,.inl ⟨rfl,fun j y hy=>HZ.out j y (by have:=(MF.1 hy).1;have:=Qc.out;omega) hy⟩,HP.out.lo⟩
structure Ry (x:Kv):Prop where
 num:x.zs.length<=6
 len:∀y∈x.zs,Qs y.e.z
theorem Ry.bytes {x:Kv}{w:ae}{B:Nat}(h:Ry x)(ha:Ld w B x):(O4 x.t).length<=90000:=by
 by_cases h0:O0 x.t=0
 ·have hy:=aan h0 ha.prev ha.Ku;have h1:=aaC x.t.JX fun e he=>⟨hy.good e he,hy.short e he⟩;have h2:=h.num;have h3:x.t.JX.length=x.zs.length:=by rw[ha.names,aI]
  have h4:=ha.prev;rw[show O4 x.t=PN x.t from bD h0];simp only[PN,KN,J4];omega
 ·rw[show O4 x.t= [] from bP h0];exact aG _
theorem adC (KR:ag Int)(hK:KR.length=64)(w:ae)(hG:MS w 0 (JP KR))(hw1:0<w.heap.size)(key:ag au)(hk:key.length=32)(u:Kv)(hu:Ry u)(hA:Ld w w.heap.size u)
  (C:aj Addr)(m cc:Nat)(ts:ag Kv)(hm:ts.length=m)(hm1:m<64)(hC:LJ w w.heap.size C ts)(hT:∀x∈ts,Ry x)(akF:Rk KR key ts u.t=0):
  Calls Tryz.prog 10 #[.slice C m cc,.agg (cellsB key),.agg (JK u.t (.slice u.A u.zs.length u.c))] w (aqv w (m+1) (ts++ [u])):=by
 have HU:=JJ hu;have HUW:Hid (TbW u):=JJ ⟨hA.names,hA.prev,hA.Ku⟩;have HKI:=JJ (Na key hk);have HAD:Hid (∀W,ai w.heap.size w W->Calls Tryz.prog 35 #[.slice C m cc,.agg (cellsB key),.agg (JK u.t (.slice u.A u.zs.length u.c))] W (Gives (I 0) W)):=JJ fun W hb=>
  by have h:=ab6 KR hK W (hG.via hb hw1) (LK hw1 hb.size) key hk u (hA.grow hb) (hu.bytes hA) C m cc ts hm hm1 (hC.grow hb) (fun x hx=>(hT x hx).bytes (hC.each x hx));rw[akF] at h;exact h
 have Ov:Hid (∀x:Kv,Ld w w.heap.size x->Ry x->∀W,ai w.heap.size w W->Calls Tryz.prog 36 #[.agg (JK x.t (.slice x.A x.zs.length x.c))] W (ClV W x)):=JJ fun x hx hg W hb=>
  Ut x x.zs.length W rfl (by have:=hg.num;omega) hg.len (hx.grow hb)
 have HCU:=JJ (Ov.out u hA hu);have H0:=JJ (V2.start w 24 (cellsB key) 26 (JK u.t (.slice u.A u.zs.length u.c)));have HSU:Hid ((Tryz.prog.info? 26).map (·.size)=some (JK u.t (.slice u.A u.zs.length u.c)).size):=JJ (Ky u.t _ hA.prev hA.Ku);have Qc:=JJ hm;have HC:=JJ hC;have HT:=JJ hT;have HTA:=JJ (OG hC);obtain⟨i0,hi,hq0,hq1,hq2⟩:=dN Xi;have HI:=JJ hi;have Yx:=JJ hq0;have Ri:=JJ hq1;have PR:=JJ hq2;clear hi hq0 hq1 hq2 hu hA hk hK hG hm hC hT akF;go_enter Tryz.func10,Tryz.ntmps10;go_upto_region 1 with fail;generalize (w.alloc (.cells (cellsB key) 24)).alloc (.cells (JK u.t (.slice u.A u.zs.length u.c)) 26)=W0 at H0⊢;go_wp2_with(first
  |((with_reducible refine KO 24 ?_);refine J3 rfl _ _ rfl w.heap.size rfl (cellsB key) H0.out.s.Nc _ aK rfl HKI.out ?_)
  |((with_reducible refine KO 26 ?_);refine J3 rfl _ _ rfl (w.heap.size+1) rfl (JK u.t (.slice u.A u.zs.length u.c)) H0.out.r.Nc _ az rfl HSU.out ?_))
 refine(HAD.out W0 H0.out.lo).mono ?_;rintro e w2 ⟨rfl,b2⟩;have h2:=H0.out.grow b2;have hw2:=h2.r.lt;obtain⟨w3,hr3,ho3,hb3⟩:=afV m (w.heap.size+2) (by omega) w2 (by omega);have SG:Hid (ApW w (JK u.t (.slice u.A u.zs.length u.c)) 0 (m+1) (some ⟨w2.heap.size,0,none⟩) [] w3):=JJ ⟨(h2.grow hb3).r,(h2.grow hb3).lo,ho3,(fun _ h=>nomatch h),(fun _ h=>nomatch h)⟩;clear h2 b2 H0 HAD ho3 hb3 hw2;go_wp2_with fail;clear hr3;obtain⟨g0,hg0⟩:∃g0,w2.heap.size=g0:=⟨_,rfl⟩;rw[hg0] at SG⊢;clear hg0
 go_loopw [9,25] (fun o i wr=>atM w (JK u.t (.slice u.A u.zs.length u.c)) m ts o i wr) (fun _ i _=>m - (intOf i).toNat)
 case atStart=>exact⟨0,_,_,[],aG _,rfl,rfl,rfl,SG.out⟩
 case round=>
  obtain⟨k,A',c',ys,hk,rfl,rfl,hys,hp⟩:=hrel;have HP:=JJ hp;have HYS:=JJ hys;have hlt0:=hp.lt;clear hp hys SG;by_cases hlt:k<m
  ·have hkl:k<ts.length:=by rw[Qc.out];exact hlt
   obtain⟨x,hx⟩:∃x,ts[k]? =some x:=⟨_,KL hkl⟩;have hxm:=LQ hx;obtain⟨cb,co,rfl,hcb,hTA⟩:∃b off,C=some ⟨b,off,none⟩/\b<w.heap.size/\OC w b off ts:=by
    rcases HTA.out with h1|h1
    ·omega
    ·exact h1
   have hxa:=HC.out.each x hxm;have HX:=JJ hx;have HXC:=JJ (Ov.out x hxa (HT.out x hxm));have Uj:Hid (wr.rangeAt cb (co+k*68) x.cells):=JJ (JY (hTA k x hx).1 HP.out.lo hcb);have Ud:Hid ((Tryz.prog.info? 26).map (·.size)=some x.cells.length):=JJ (by rw[(hTA k x hx).2];kernel_rfl);have UZ:Hid ((Tryz.prog.info? 26).map (·.size)=some x.cells.toArray.size):=JJ (Ky x.t _ hxa.prev hxa.Ku);have HXZ:Hid ((JK J8 (.slice none 0 0)).size=x.cells.toArray.size):=JJ ((Kq J8 _ rfl rfl).trans (Kq x.t (.slice x.A x.zs.length x.c) hxa.prev hxa.Ku).symm);have HXO:Hid (x.cells.toArray.all (·.oneCell')=true):=JJ (J9 _ _ _ _);have Yw:=JJ (aF wr (.cells (JK J8 (.slice none 0 0)) 26));have YJ:Hid (AV wr.heap.size 26 x.cells.toArray ((wr.alloc (.cells (JK J8 (.slice none 0 0)) 26)).setRow wr.heap.size x.cells.toArray)):=JJ ⟨aQ _ _ _ _ _ _ Yw.out⟩;have HBQ:Hid (ai wr.heap.size wr ((wr.alloc (.cells (JK J8 (.slice none 0 0)) 26)).setRow wr.heap.size x.cells.toArray)):=JJ (JR (JM wr _) (ay _) _);have i1:(0:Int)<=(k:Int):=by omega
   have i2:(k:Int)<(m:Int):=by omega
   clear hx hxm hTA hxa hkl;go_upto_region 8 with (first
    |((with_reducible refine KO 26 ?_);refine Kt rfl _ _ rfl cb (co+k*68) rfl x.cells Uj.out _ az rfl Ud.out ?_)
    |((with_reducible refine Kz 26 ?_);refine JW rfl _ rfl (JK J8 (.slice none 0 0)) aoF ?_)
    |((with_reducible refine KZ 26 ?_);refine aB rfl _ _ _ rfl wr.heap.size x.cells.toArray rfl rfl 26 (JK J8 (.slice none 0 0)) Yw.out UZ.out HXZ.out HXO.out ?_))
   go_wp2_with((with_reducible refine KO 26 ?_);refine J3 rfl _ _ rfl wr.heap.size rfl x.cells.toArray YJ.out.Nc _ az rfl UZ.out ?_);refine(HXC.out _ (JL HP.out.lo HBQ.out)).mono ?_;rintro e w5 ⟨y,hy1,hy2,rfl,hy3,hb5⟩;have hB5:ai wr.heap.size wr w5:=JL HBQ.out hb5;have Zc:=JJ (HP.out.grow hB5);have HYW:Hid (TbW y):=JJ ⟨hy3.names,hy3.prev,hy3.Ku⟩;have HYM:Hid (MX (w.heap.size+2) (.slice A' k c') w5 y):=JJ (MX.ofO hy3 (by have:=HBQ.out.size;omega) fun b h1 _=>HP.out.Tc b (aO HBQ.out.size h1));have HTK:Hid (Pq y=Pq x):=JJ (by unfold Pq;rw[hy1,hy2]);have awN:=Zc.out.lt;clear hy1 hy2 hy3 hb5 hB5 HBQ YJ Yw Uj;go_wp2_with(first
  |((with_reducible refine TR 32 ?_);refine Ou rfl _ rfl (JK y.t (.slice y.A y.zs.length y.c)) (Kq y.t _ HYW.out.prev HYW.out.Ku) rfl ?_)
  |(at_builtin;refine jf _ rfl _ _ 32 rfl (w.heap.size+2) 26 i0 (.agg (JK J8 (.slice none 0 0))) 68 112 dM HI.out Yx.out Ri.out PR.out rfl (by decide) (.slice A' k c') k (ys.flatMap Kv.cells) rfl (own_below Zc.out.own (JM w5 _)) ⟨w5.heap.size,0,none⟩ 1 1 y.cells rfl HYW.out.size (NM _ _ _ _ rfl) (QW y) (by omega) (by unfold maxLen;omega) (by omega) (by simp;omega) _ rfl ?_;intro gg cap w6 hown6 hgrow6 SX _;have HN:Hid (ApW w (JK u.t (.slice u.A u.zs.length u.c)) (k+1) cap (some ⟨gg,0,none⟩) (ys++ [y]) w6):=JJ (Zc.out.add HYM.out HYW.out rfl hown6 hgrow6 SX);clear hown6 hgrow6 SX))
   go_roundw
   case rel=>
    refine⟨k+1,_,_,ys++ [y],by omega,rfl,by go_num,?_,HN.out⟩;rw[bY,HYS.out,ji,HX.out,bY];exact dA (_++ ·) (by simp[HTK.out])
   case measure=>simp[intOf];omega
  ·have hkm:k=m:=by omega
   have hlt':¬(k:Int)<(m:Int):=by omega
   have HKM:=JJ hkm;clear hkm hlt;go_wp2_with((with_reducible refine KO 26 ?_);refine J3 rfl _ _ rfl (w.heap.size+1) rfl (JK u.t (.slice u.A u.zs.length u.c)) HP.out.bx.Nc _ az rfl HSU.out ?_);refine(HCU.out _ HP.out.lo).mono ?_;rintro e w5 ⟨y,hy1,hy2,rfl,hy3,hb5⟩;have Zc:=JJ (HP.out.grow hb5);have HYW:Hid (TbW y):=JJ ⟨hy3.names,hy3.prev,hy3.Ku⟩;have HYM:Hid (MX (w.heap.size+2) (.slice A' k c') w5 y):=JJ (MX.ofO hy3 (by omega) fun b h1 _=>HP.out.Tc b h1);have HTK:Hid (Pq y=Pq u):=JJ (by unfold Pq;rw[hy1,hy2]);have awN:=Zc.out.lt;clear hy1 hy2 hy3 hb5;go_wp2_with(first
  |((with_reducible refine TR 32 ?_);refine Ou rfl _ rfl (JK y.t (.slice y.A y.zs.length y.c)) (Kq y.t _ HYW.out.prev HYW.out.Ku) rfl ?_)
  |(at_builtin;refine jf _ rfl _ _ 32 rfl (w.heap.size+2) 26 i0 (.agg (JK J8 (.slice none 0 0))) 68 112 dM HI.out Yx.out Ri.out PR.out rfl (by decide) (.slice A' k c') k (ys.flatMap Kv.cells) rfl (own_below Zc.out.own (JM w5 _)) ⟨w5.heap.size,0,none⟩ 1 1 y.cells rfl HYW.out.size (NM _ _ _ _ rfl) (QW y) (by omega) (by unfold maxLen;omega) (by omega) (by simp;omega) _ rfl ?_;intro gg cap w6 hown6 hgrow6 SX _;have HN:Hid (ApW w (JK u.t (.slice u.A u.zs.length u.c)) (k+1) cap (some ⟨gg,0,none⟩) (ys++ [y]) w6):=JJ (Zc.out.add HYM.out HYW.out rfl hown6 hgrow6 SX);clear hown6 hgrow6 SX))
   go_ret2;refine⟨_,_,ys++ [y],by rw[<-HKM.out];rfl,by rw[<-HKM.out];exact S9 HN.out.own,?_,HN.out.chain,HN.out.lo⟩;rw[bY,bY,HYS.out,HKM.out,aU (by rw[Qc.out];exact ay _)];simp[HTK.out]
theorem afv (KR:ag Int)(hK:KR.length=64)(w:ae)(hG:MS w 0 (JP KR))(hw1:0<w.heap.size)(key:ag au)(hk:key.length=32)(u:Kv)(hu:Ry u)(hA:Ld w w.heap.size u)
  (C:aj Addr)(m cc:Nat)(ts:ag Kv)(hm:ts.length=m)(hm1:m<64)(hC:LJ w w.heap.size C ts)(hT:∀x∈ts,Ry x)(r:Int)(hr:¬r=0)(akF:Rk KR key ts u.t=r):
  Calls Tryz.prog 10 #[.slice C m cc,.agg (cellsB key),.agg (JK u.t (.slice u.A u.zs.length u.c))] w (Gives (.tuple #[.slice none 0 0,I r]) w):=by
 have HKI:=JJ (Na key hk);have HAD:Hid (∀W,ai w.heap.size w W->Calls Tryz.prog 35 #[.slice C m cc,.agg (cellsB key),.agg (JK u.t (.slice u.A u.zs.length u.c))] W (Gives (I r) W)):=JJ fun W hb=>
  by have h:=ab6 KR hK W (hG.via hb hw1) (LK hw1 hb.size) key hk u (hA.grow hb) (hu.bytes hA) C m cc ts hm hm1 (hC.grow hb) (fun x hx=>(hT x hx).bytes (hC.each x hx));rw[akF] at h;exact h
 have H0:=JJ (V2.start w 24 (cellsB key) 26 (JK u.t (.slice u.A u.zs.length u.c)));have HSU:Hid ((Tryz.prog.info? 26).map (·.size)=some (JK u.t (.slice u.A u.zs.length u.c)).size):=JJ (Ky u.t _ hA.prev hA.Ku);clear hu hA hk hK hG hm hC hT akF;go_enter Tryz.func10,Tryz.ntmps10;go_upto_region 1 with fail;generalize (w.alloc (.cells (cellsB key) 24)).alloc (.cells (JK u.t (.slice u.A u.zs.length u.c)) 26)=W0 at H0⊢;go_wp2_with(first
  |((with_reducible refine KO 24 ?_);refine J3 rfl _ _ rfl w.heap.size rfl (cellsB key) H0.out.s.Nc _ aK rfl HKI.out ?_)
  |((with_reducible refine KO 26 ?_);refine J3 rfl _ _ rfl (w.heap.size+1) rfl (JK u.t (.slice u.A u.zs.length u.c)) H0.out.r.Nc _ az rfl HSU.out ?_))
 refine(HAD.out W0 H0.out.lo).mono ?_;rintro e w2 ⟨rfl,b2⟩;have H2:=JJ (H0.out.grow b2);clear b2 H0 HAD;go_wp2_with fail;go_ret2;exact⟨rfl,H2.out.lo⟩
def aqu (w:ae)(n:Nat)(xs:ag Kv)(r:Int)(e:Ending)(w':ae):Prop:=
 (r=0/\aqv w n xs e w')\/(r≠0/\Gives (.tuple #[.slice none 0 0,I r]) w e w')
theorem akd (KR:ag Int)(hK:KR.length=64)(w:ae)(hG:MS w 0 (JP KR))(hw1:0<w.heap.size)(key:ag au)(hk:key.length=32)(u:Kv)(hu:Ry u)(hA:Ld w w.heap.size u)
  (C:aj Addr)(m cc:Nat)(ts:ag Kv)(hm:ts.length=m)(hm1:m<64)(hC:LJ w w.heap.size C ts)(hT:∀x∈ts,Ry x):
  Calls Tryz.prog 10 #[.slice C m cc,.agg (cellsB key),.agg (JK u.t (.slice u.A u.zs.length u.c))] w (aqu w (m+1) (ts++ [u]) (Rk KR key ts u.t)):=by
 by_cases h:Rk KR key ts u.t=0
 ·exact(adC KR hK w hG hw1 key hk u hu hA C m cc ts hm hm1 hC hT h).mono fun e w' h1=>.inl ⟨h,h1⟩
 ·exact(afv KR hK w hG hw1 key hk u hu hA C m cc ts hm hm1 hC hT _ h rfl).mono fun e w' h1=>.inr ⟨h,h1⟩
def afu (KR:ag Int)(key:ag au)(ts:ag Kv)(k:Nat):Int:=match ts[k]? with|some x=>Rk KR key (ts.take k) x.t|none=>0
theorem CkG.one {ts:ag Kv}{F:Nat->Int}{r s:Int}(h:CkG ts F r)(g:CkG ts F s):r=s:=by
 rcases h with ⟨h0,h1⟩|⟨h0,k,x,hx,h1,h2⟩
 ·rcases g with ⟨g0,g1⟩|⟨g0,j,y,hy,g1,g2⟩
  ·rw[h0,g0]
  ·exact absurd ((h1 j y hy).symm.trans g1).symm g0
 ·rcases g with ⟨g0,g1⟩|⟨g0,j,y,hy,g1,g2⟩
  ·exact absurd ((g1 k x hx).symm.trans h1).symm h0
  ·rcases Nat.lt_trichotomy k j with hl|rfl|hl
   ·exact absurd ((g2 k x hl hx).symm.trans h1).symm h0
   ·exact h1.symm.trans g1
   ·exact absurd ((h2 j y hl hy).symm.trans g1).symm g0
theorem anz (KR:ag Int)(hK:KR.length=64)(w:ae)(hG:MS w 0 (JP KR))(hw1:0<w.heap.size)(key:ag au)(hk:key.length=32)(C:aj Addr)(m cc:Nat)(ts:ag Kv)(hm:ts.length=m)(hm1:m<=64)(hcc:m<=cc)(hC:LJ w w.heap.size C ts)(hT:∀x∈ts,Ry x):
  Calls Tryz.prog 19 #[.slice C m cc,.agg (cellsB key)] w (fun e w'=>∃r,e=.returned (I r)/\CkG ts (afu KR key ts) r/\ai w.heap.size w w'):=
 aii w key hk C m cc ts hm hm1 hcc hC (afu KR key ts) (JJ fun k x hx _ W hb=>by
  have hkl:=(MF.1 hx).1;have hxm:=LQ hx;rw[show afu KR key ts k=Rk KR key (ts.take k) x.t by unfold afu;rw[hx]];exact ab6 KR hK W (hG.via hb hw1) (LK hw1 hb.size) key hk x ((hC.each x hxm).grow hb) ((hT x hxm).bytes (hC.each x hxm)) C k cc (ts.take k) (by rw[bn];omega) (by omega) ((hC.take k).grow hb) (fun y hy=>(hT y (dP hy)).bytes (hC.each y (dP hy))))
theorem ZN {ys xs:ag L9}(h:ys.map (·.e)=xs.map (·.e))(k:Nat):NG ys k=NG xs k:=by
 cases k with
 |zero=>rfl
 |succ k=>
  show(ys[k]?.map (·.e.name)).getD ⟨#[]⟩=(xs[k]?.map (·.e.name)).getD ⟨#[]⟩;have h1:ys[k]?.map (·.e)=xs[k]?.map (·.e):=by rw[<-aJ,<-aJ,h]
  have h2:∀o:aj L9,o.map (·.e.name)=(o.map (·.e)).map (·.name):=fun o=>by cases o<;>rfl
  rw[h2,h2,h1]
theorem OV.congr {ys xs:ag L9}(h:ys.map (·.e)=xs.map (·.e))(hx:OV xs):OV ys:=by
 intro k y hy;have h1:ys[k]?.map (·.e)=xs[k]?.map (·.e):=by rw[<-aJ,<-aJ,h]
 rw[hy] at h1;obtain⟨x,hx1,hx2⟩:=mV.1 h1.symm;have h3:=hx k x hx1;rw[ZN h];rw[hx2] at h3;exact h3
theorem ahB {ys xs:ag Kv}(h:ys.map Pq=xs.map Pq){k:Nat}{y:Kv}(hy:ys[k]? =some y):∃x,xs[k]? =some x/\x.t=y.t/\x.zs.map (·.e)=y.zs.map (·.e):=by
 have h1:ys[k]?.map Pq=xs[k]?.map Pq:=by rw[<-aJ,<-aJ,h]
 rw[hy] at h1;obtain⟨x,hx1,hx2⟩:=mV.1 h1.symm;unfold Pq at hx2;injection hx2 with e1 e2;exact⟨x,hx1,e1,e2⟩
theorem ahA {ys xs:ag Kv}(h:ys.map Pq=xs.map Pq):ys.length=xs.length:=by simpa using dA List.length h
theorem RV.congr {ys xs:ag Kv}(h:ys.map Pq=xs.map Pq)(hx:∀x∈xs,RV x):∀y∈ys,RV y:=by
 intro y hy;obtain⟨k,hk⟩:=fU hy;obtain⟨x,h1,h2,h3⟩:=ahB h hk;have h4:=hx x (LQ h1);exact⟨h2▸h4.1,OV.congr h3.symm h4.2⟩
theorem ab5 {KR:ag Int}{key:ag au}{ys xs:ag Kv}(h:ys.map Pq=xs.map Pq)(t:Tb):Uk KR key ys t=Uk KR key xs t:=by
 unfold Uk;rw[ahA h];cases hy:ys[xs.length - 1]? with
 |none=>
  have h1:ys[xs.length - 1]?.map Pq=xs[xs.length - 1]?.map Pq:=by rw[<-aJ,<-aJ,h]
  rw[hy] at h1;rw[Option.map_eq_none_iff.1 h1.symm]
 |some y=>
  obtain⟨x,h1,h2,_⟩:=ahB h hy;rw[h1];simp only[h2]
def PS (KR:ag Int)(key:ag au)(ts:ag Kv):Prop:=∀k x,ts[k]? =some x->Uk KR key (ts.take k) x.t=0
theorem PS.nil {KR:ag Int}{key:ag au}:PS KR key []:=fun _ _ h=>nomatch h
theorem PS.snoc {KR:ag Int}{key:ag au}{ts:ag Kv}{u:Kv}(h:PS KR key ts)(hu:Uk KR key ts u.t=0):PS KR key (ts++ [u]):=by
 intro k x hx;by_cases hk:k<ts.length
 ·rw[dZ hk] at hx;rw[fV (by omega)];exact h k x hx
 ·have hk2:=(MF.1 hx).1;rw[KN,nC] at hk2;obtain rfl:k=ts.length:=by omega
  rw[bH (ay _),kN] at hx;injection hx with hx;subst hx;rw[fV (ay _),jB];exact hu
theorem PS.congr {KR:ag Int}{key:ag au}{ys xs:ag Kv}(h:ys.map Pq=xs.map Pq)(hx:PS KR key xs):PS KR key ys:=by
 intro k y hy;obtain⟨x,h1,h2,_⟩:=ahB h hy;have h3:=hx k x h1;rw[ab5 (xs:=xs.take k) (by rw[lZ,lZ,h]),<-h2];exact h3
theorem PS.take {KR:ag Int}{key:ag au}{ts:ag Kv}(h:PS KR key ts)(n:Nat):PS KR key (ts.take n):=by
 intro k x hx;have hk:k<n:=by
  have h1:=(MF.1 hx).1;rw[bn] at h1;omega
 rw[dK hk] at hx;rw[List.take_take,lD (by omega)];exact h k x hx
theorem X5 {KR:ag Int}{key:ag au}{ts:ag Kv}{t:Tb}(h1:t.Ku=QR KR key (PN t))(h2:t.version=(ts.length:Int)+1)(h3:∀x,ts[ts.length - 1]? =some x->OE KR (PN x.t++x.t.Ku)=t.prev/\x.t.J5=t.J5):Uk KR key ts t=0:=by
 unfold Uk;rw[<-h1,bP (by simp),bP (by simp[h2])];cases hx:ts[ts.length - 1]? with
 |none=>rfl
 |some x=>simp[(h3 x hx).1,(h3 x hx).2]
def ZP (t:Tb):ag au:=PN t++t.Ku
theorem Va (z:Int):le z 1= [byteOf z]:=rfl
theorem adY {t:Tb}(h:t.prev.length=32):((ZP t).drop 3).take 32=t.prev:=by
 unfold ZP PN;rw[Va,Va,Va];simp only[dn,bU,aH,jZ,kR];rw[fV (by omega),aU (by omega)]
section
variable {t:Tb}
theorem Um {a b:Int}(ha:0<=a/\a<256)(hb:0<=b/\b<256)(h:byteOf a=byteOf b):a=b:=by
 have h1:Extern.Stop.cell (byteOf a)=Extern.Stop.cell (byteOf b):=by rw[h]
 rw[LH,LH] at h1;have h2:a%256=b%256:=by simpa using h1
 omega
theorem aiA {v:Int}(h0:0<=t.J5/\t.J5<256)(h1:0<=v/\v<256)(h:ZP t=ZP {t with J5:=v}):v=t.J5:=by
 unfold ZP PN at h;rw[Va,Va] at h;simp only[dn,bU,aH] at h;injection h with h2 _;exact(Um h0 h1 h2).symm
theorem afU {v:Int}(h0:0<=t.version/\t.version<256)(h1:0<=v/\v<256)(h:ZP t=ZP {t with version:=v}):v=t.version:=by
 unfold ZP PN at h;simp only[Va,dn,bU,aH] at h;injection h with _ h;injection h with h2 _;exact(Um h0 h1 h2).symm
theorem acr {v:Int}(h0:0<=t.JU/\t.JU<256)(h1:0<=v/\v<256)(h:ZP t=ZP {t with JU:=v}):v=t.JU:=by
 unfold ZP PN at h;simp only[Va,dn,bU,aH] at h;injection h with _ h;injection h with _ h;injection h with h2 _;exact(Um h0 h1 h2).symm
theorem an8 {p:ag au}(h0:t.prev.length=32)(h1:p.length=32)(h:ZP t=ZP {t with prev:=p}):p=t.prev:=by
 have h2:=adY (t:= {t with prev:=p}) h1;rw[<-h,adY h0] at h2;exact h2.symm
theorem ass {m:ag au}(h:ZP t=ZP {t with Ku:=m}):m=t.Ku:=by
 unfold ZP at h;have h2:PN {t with Ku:=m}=PN t:=by
  unfold PN;rfl
 rw[h2] at h;exact(mG h).symm
theorem ak5 {k:Nat}(h0:t.JX.length<256)(h:ZP t=ZP {t with JX:=t.JX.take k}):t.JX.take k=t.JX:=by
 unfold ZP PN at h;simp only[Va,dn,bU,aH] at h;injection h with _ h;injection h with _ h;injection h with _ h;have h2:=mG h;injection h2 with h3 _;have h4:=Um ⟨by omega,by omega⟩ ⟨by omega,by rw[bn];omega⟩ h3;rw[bn] at h4;exact aU (by omega)
end
structure RwV where
 x:RwZ
 G:aj Addr
 O:aj Addr
 gc:Nat
 oc:Nat
def RwV.cells (v:RwV):ag ah:=(QA v.x v.G v.O v.gc v.oc).toList
structure ab4 (w:ae)(B:Nat)(v:RwV):Prop where
 gl:v.x.LM.length<=9223372036854775807
 ol:v.x.NH.length<=9223372036854775807
 g:JS w B v.G (v.x.LM.map Extern.Stop.cell)
 o:JS w B v.O (v.x.NH.map Extern.Stop.cell)
theorem ab4.keep {w w':ae}{B:Nat}{v:RwV}(h:ab4 w B v)(hb:ai B w w'):ab4 w' B v:=⟨h.gl,h.ol,h.g.keep hb,h.o.keep hb⟩
theorem ab4.more {w:ae}{B B':Nat}{v:RwV}(h:ab4 w B v)(hB:B<=B'):ab4 w B' v:=⟨h.gl,h.ol,h.g.more hB,h.o.more hB⟩
structure ItV where
 A:aj Addr
 c:Nat
 vs:ag RwV
 wd:au
def ItV.cells (x:ItV):ax ah:= #[.slice x.A x.vs.length x.c,Extern.Stop.cell x.wd]
structure Zk (w:ae)(B:Nat)(x:ItV):Prop where
 len:x.vs.length<=9223372036854775807
 row:JS w B x.A (x.vs.flatMap RwV.cells)
 each:∀v∈x.vs,ab4 w B v
theorem Zk.keep {w w':ae}{B:Nat}{x:ItV}(h:Zk w B x)(hb:ai B w w'):Zk w' B x:=⟨h.len,h.row.keep hb,fun v hv=>(h.each v hv).keep hb⟩
theorem Zk.more {w:ae}{B B':Nat}{x:ItV}(h:Zk w B x)(hB:B<=B'):Zk w B' x:=⟨h.len,h.row.more hB,fun v hv=>(h.each v hv).more hB⟩
theorem LV.of {lo lo':Nat}{v:ah}{W:ae}{A:aj Addr}{cs:ag ah}(h:JS W W.heap.size A cs)(h2:UQ lo' A cs)(hlo:lo<=lo')(hv:∀b,lo'<=b->some b≠v.ownBlock):LV lo v W A cs:=by
 rcases h with h|⟨b,off,e,hb,hc⟩
 ·exact .inl h
 ·rcases h2 with h2|⟨b2,YA,e2,hl⟩
  ·exact .inl h2
  ·rw[e] at e2;injection e2 with e2;injection e2 with e3 e4;subst e3;exact .inr ⟨b,off,e,by omega,hb,hv b hl,hc⟩
theorem NF.of {lo lo':Nat}{v:ah}{W:ae}{s:Zs}{z:Zn}(h:N7 W W.heap.size s z)(h2:adA lo' s z)(hlo:lo<=lo')(hv:∀b,lo'<=b->some b≠v.ownBlock):NF lo v W s z:=
 ⟨.of h.JQ h2.1 hlo hv,.of h.rules h2.2.1 hlo hv,.of h.trans h2.2.2.1 hlo hv,.of h.J6 h2.2.2.2 hlo hv⟩
structure TI (w:ae)(ib:ax ah)(T:Tb)(k:Nat)(Az:aj Addr)(cz:Nat)(ys:ag L9)(W:ae):Prop where
 it:AV w.heap.size 48 ib W
 r:AV (w.heap.size+1) 26 (JK J8 (.slice none 0 0)) W
 t:AV (w.heap.size+2) 26 (JK T (.slice Az k cz)) W
 lo:ai w.heap.size w W
 own:W.ownsRow (w.heap.size+3) 76 9 (.slice Az k cz) k (KC ys)
 mem:∀y∈ys,NF (w.heap.size+3) (.slice Az k cz) W y.s y.e.z
section
variable {w W W':ae}{ib:ax ah}{T:Tb}{k cz:Nat}{Az:aj Addr}{ys:ag L9}
theorem TI.grow (h:TI w ib T k Az cz ys W)(hb:ai W.heap.size W W'):TI w ib T k Az cz ys W':=
 ⟨h.it.below hb,h.r.below hb,h.t.below hb,JL h.lo hb,own_below h.own hb,fun y hy=>(h.mem y hy).keep hb.size fun b _ h2 h3=>⟨hb.block b h2,h3⟩⟩
theorem TI.drew (h:TI w ib T k Az cz ys W):TI w ib T k Az cz ys W.drew:=h.grow ((aW _ W).drew)
theorem TI.lt (h:TI w ib T k Az cz ys W):w.heap.size+2<W.heap.size:=h.t.lt
theorem TI.Tc (h:TI w ib T k Az cz ys W):∀b,W.heap.size<=b->some b≠(Value.slice Az k cz).ownBlock:=fun b hb e=>by
 have:=dU h.own b e.symm;omega
theorem TI.add {Wb w6:ae}{gg cap:Nat}{y:L9}(h:TI w ib T k Az cz ys W)(hy:NF (w.heap.size+3) (.slice Az k cz) W y.s y.e.z)(Xg:Wb=W.alloc (.cells y.cells 76))
  (hown:w6.ownsRow (w.heap.size+3) 76 9 (.slice (some ⟨gg,0,none⟩) (k+1) cap) (k+1) (KC ys++y.cells.toList))(hg:Wb.grownBy w6 (Value.slice Az k cz).ownBlock)(hat:(Value.slice Az k cz).ownBlock=some gg\/gg=Wb.heap.size):
  TI w ib T (k+1) (some ⟨gg,0,none⟩) cap (ys++ [y]) (w6.setCell ⟨w.heap.size+2,3,none⟩ (.slice (some ⟨gg,0,none⟩) (k+1) cap)):=by
 have hsb:Wb.heap.size=W.heap.size+1:=by rw[Xg];simp
 have hlt:=h.lt;have hs6:W.heap.size<=w6.heap.size:=by have:=hg.size;omega
 have hbl:∀b,b<W.heap.size->some b≠(Value.slice Az k cz).ownBlock->w6.heap[b]? =W.heap[b]? :=fun b hb hn=>
  (hg.block b (by omega) hn).trans (by rw[Xg];exact aV W _ b hb)
 have hlow:∀b,b<w.heap.size+3->some b≠(Value.slice Az k cz).ownBlock:=MV h.own;have hgg:=Qx hown;have hset:∀b,b≠w.heap.size+2->(w6.setCell ⟨w.heap.size+2,3,none⟩ (.slice (some ⟨gg,0,none⟩) (k+1) cap)).heap[b]? =w6.heap[b]? :=fun b hb=>aN w6 ⟨w.heap.size+2,3,none⟩ b _ hb;have hsz:(w6.setCell ⟨w.heap.size+2,3,none⟩ (.slice (some ⟨gg,0,none⟩) (k+1) cap)).heap.size=w6.heap.size:=by simp[World.setCell]
 have hmm:∀b,w.heap.size+3<=b->b<W.heap.size->some b≠(Value.slice Az k cz).ownBlock->(w6.setCell ⟨w.heap.size+2,3,none⟩ (.slice (some ⟨gg,0,none⟩) (k+1) cap)).heap[b]? =W.heap[b]? /\some b≠(Value.slice (some ⟨gg,0,none⟩) (k+1) cap).ownBlock:=fun b h1 h2 h3=>by
  refine⟨(hset b (by omega)).trans (hbl b h2 h3),fun e=>?_⟩;have e2:b=gg:=by simpa[Value.ownBlock] using e
  rcases hat with e3|e3
  ·exact h3 (by rw[e2];exact e3.symm)
  ·omega
 refine⟨⟨(hset _ (by omega)).trans ((hbl _ (by omega) (hlow _ (by omega))).trans h.it.var)⟩,⟨(hset _ (by omega)).trans ((hbl _ (by omega) (hlow _ (by omega))).trans h.r.var)⟩,?_,?_,?_,?_⟩
 ·have h1:AV (w.heap.size+2) 26 (JK T (.slice Az k cz)) w6:=⟨(hbl _ (by omega) (hlow _ (by omega))).trans h.t.var⟩;have h2:=h1.put 3 (.slice (some ⟨gg,0,none⟩) (k+1) cap);rw[Rf] at h2;exact h2
 ·have h1:ai w.heap.size w Wb:=by rw[Xg];exact JL h.lo (JM W _)
  have hob:Wb.ownsRow (w.heap.size+3) 76 9 (.slice Az k cz) k (KC ys):=by rw[Xg];exact own_below h.own (JM W _)
  exact(KJ h1 (KD hob (by omega)) (by omega) hg).setCell (p:=⟨w.heap.size+2,3,none⟩) (show w.heap.size<=w.heap.size+2 by omega) _
 ·have h1:=Nl (p:=⟨w.heap.size+2,3,none⟩) (u:=.slice (some ⟨gg,0,none⟩) (k+1) cap) hown (fun e=>absurd (show w.heap.size+2=gg by simpa[Value.ownBlock] using e) (by omega));have e:KC (ys++ [y])=KC ys++y.cells.toList:=by simp[KC]
  rw[e];exact h1
 ·intro y' hy';rcases dm.1 hy' with h1|h1
  ·exact(h.mem y' h1).keep (by rw[hsz];exact hs6) hmm
  ·obtain rfl:=aY.1 h1;exact hy.keep (by rw[hsz];exact hs6) hmm
end
theorem Xc (W:ae)(bb:Nat)(x:Int)(h:W.heap[bb]? =some (.cells #[.int .u8 x] 5 (0,0))):(convert 55 9 (.slice (some ⟨bb,0,none⟩) 1 1)).run Tryz.prog W=.ok (.string ⟨#[UInt8.ofNat x.toNat]⟩) W:=by
 have e:(⟨#[UInt8.ofNat x.toNat]⟩:ByteArray)=strOfNums [x]:=rfl;rw[e];refine kU _ _ _ bC gW bb 0 1 1 [x] rfl (fun i hi=>?_) _ gV;have:i=0:=by omega
 subst this;exact aC W bb 0 _ _ _ h
theorem VG (k:Nat):(⟨#[122]⟩:ByteArray)++⟨#[UInt8.ofNat (97+(k:Int)).toNat]⟩=QG k:=by
 have e:(97+(k:Int)).toNat=97+k:=by omega
 rw[e];rfl
def VZ (vs:ag RwV):ag Ze:=(vs.take 3).mapIdx fun i v=>⟨QG i,OU v.x⟩
theorem af0 (vs:ag RwV)(k:Nat)(v:RwV)(hv:vs[k]? =some v):(vs.take (k+1)).mapIdx (fun i v=>(⟨QG i,OU v.x⟩:Ze))=(vs.take k).mapIdx (fun i v=>(⟨QG i,OU v.x⟩:Ze))++ [⟨QG k,OU v.x⟩]:=by
 have hk:=(MF.1 hv).1;have e:vs.take (k+1)=vs.take k++ [v]:=by
  rw[ji,hv];rfl
 rw[e,List.mapIdx_append];simp[List.length_take,Nat.min_eq_left (Nat.le_of_lt hk)]
def UR (w:ae)(zb zo m ic k:Nat)(v:RwV)(W:ae):Prop:=W.cell? ⟨w.heap.size,0,none⟩=some (.slice (some ⟨zb,zo,none⟩) m ic)/\W.rangeAt zb (zo+k*14) v.cells
theorem UR.of {w W:ae}{zb zo m ic k:Nat}{v:RwV}{x:ah}(hit:AV w.heap.size 48 #[.slice (some ⟨zb,zo,none⟩) m ic,x] W)(hlo:ai w.heap.size w W)(hr:w.rangeAt zb (zo+k*14) v.cells)(hb:zb<w.heap.size):UR w zb zo m ic k v W:=
 ⟨hit.cell 0,JY hr hlo hb⟩
theorem NF.grow {lo:Nat}{v:ah}{W W':ae}{s:Zs}{z:Zn}(h:NF lo v W s z)(hb:ai W.heap.size W W'):NF lo v W' s z:=h.keep hb.size fun b _ h2 h3=>⟨hb.block b h2,h3⟩
theorem TI.start (w:ae)(ib:ax ah)(T:Tb)(z:ax ah):TI w ib T 0 none 0 [] ((((w.alloc (.cells ib 48)).alloc (.cells (JK J8 (.slice none 0 0)) 26)).alloc (.cells z 26)).setRow (w.heap.size+2) (JK T (.slice none 0 0))):=by
 obtain⟨W,hW⟩:∃W,(w.alloc (.cells ib 48)).alloc (.cells (JK J8 (.slice none 0 0)) 26)=W:=⟨_,rfl⟩;have hs:W.heap.size=w.heap.size+2:=by rw[<-hW];simp
 have hb:ai w.heap.size w W:=by rw[<-hW];exact JL (JM w _) (JM _ _)
 have h1:AV w.heap.size 48 ib W:=by rw[<-hW];exact⟨dJ w _ _⟩
 have h2:AV (w.heap.size+1) 26 (JK J8 (.slice none 0 0)) W:=by rw[<-hW];exact⟨bW w _ _⟩
 have h3:=AV.new W z 26;rw[hs] at h3;rw[hW];have hb2:=JM W (.cells z 26);exact⟨(h1.below hb2).UA (by omega) _,(h2.below hb2).UA (by omega) _,h3.SA _,JR (JL hb hb2) (by omega) _,dD _ _ _ _,fun _ h=>nomatch h⟩
theorem TI.mid {w W w6:ae}{ib:ax ah}{T:Tb}{k cz:Nat}{Az:aj Addr}{ys:ag L9}(h:TI w ib T k Az cz ys W)(o:Obj)(hg:(W.alloc o).grownBy w6 (Value.slice Az k cz).ownBlock):AV w.heap.size 48 ib w6/\AV (w.heap.size+2) 26 (JK T (.slice Az k cz)) w6/\ai w.heap.size w w6:=by
 have hlt:=h.lt;have hbl:∀b,b<W.heap.size->some b≠(Value.slice Az k cz).ownBlock->w6.heap[b]? =W.heap[b]? :=fun b hb hn=>
  (hg.block b (by simp;omega) hn).trans (aV W _ b hb)
 have hlow:∀b,b<w.heap.size+3->some b≠(Value.slice Az k cz).ownBlock:=MV h.own;exact⟨⟨(hbl _ (by omega) (hlow _ (by omega))).trans h.it.var⟩,⟨(hbl _ (by omega) (hlow _ (by omega))).trans h.t.var⟩,KJ (JL h.lo (JM W o)) (KD (own_below h.own (JM W o)) (by omega)) (by simp;omega) hg⟩
theorem Xl {w w':ae}{lo e size n:Nat}{v:ah}{xs:ag ah}(h:w.ownsRow lo e size v n xs)(_hs:w.heap.size<=w'.heap.size)(hb:∀b,lo<=b->b<w.heap.size->w'.heap[b]? =w.heap[b]?):w'.ownsRow lo e size v n xs:=by
 refine⟨h.1,?_⟩;rcases h.2 with h2|⟨g,cap,cur,h1,h2,h3,h4⟩
 ·exact .inl h2
 ·exact .inr ⟨g,cap,cur,h1,h2,(hb g h2 (KY.1 h3).1).trans h3,h4⟩
theorem aeb:∀(vs pre old suf:ag ah),old.length=vs.length->VP (pre++old++suf).toArray pre.length vs=(pre++vs++suf).toArray
 | [],pre,old,suf,h=>by
  have:old= []:=bu h;simp[VP,this]
 |v::r,pre,old,suf,h=>by
  obtain⟨x,old',rfl⟩:∃x old',old=x::old':=by
   cases old with
   |nil=>simp at h
   |cons x o=>exact⟨x,o,rfl⟩
  have h2:=aeb r (pre++ [v]) old' suf (by simpa using h);have e:(pre++x::old'++suf).toArray.setIfInBounds pre.length v=((pre++ [v])++old'++suf).toArray:=by simp
  unfold VP;rw[e];simpa using h2
theorem aex (t:Tb)(v:ah)(m:ag au)(h1:t.prev.length=32)(h2:m.length=32):VP (JK t v) 4 (JO m)=JK {t with prev:=m} v:=by
 have h:=aeb (JO m) [I t.J5,I t.version,I t.JU,v] (JO t.prev) (JO t.Ku) (by simp[JO,h1,h2]);have e1:JK t v=([I t.J5,I t.version,I t.JU,v]++JO t.prev++JO t.Ku).toArray:=by simp[JK,MW]
 have e2:JK {t with prev:=m} v=([I t.J5,I t.version,I t.JU,v]++JO m++JO t.Ku).toArray:=by simp[JK,MW]
 rw[e1,e2];exact h
theorem TI.prev {w W:ae}{ib:ax ah}{T:Tb}{k cz:Nat}{Az:aj Addr}{ys:ag L9}(h:TI w ib T k Az cz ys W)(hp:T.prev.length=32)(d:ag au)(hd:d.length=32):
  TI w ib {T with prev:=d} k Az cz ys (W.setCells (w.heap.size+2) 4 (cD d).toList):=by
 have ho:∀b,b≠w.heap.size+2->(W.setCells (w.heap.size+2) 4 (cD d).toList).heap[b]? =W.heap[b]? :=fun b hb=>Ro _ _ _ _ b hb;have hs:(W.setCells (w.heap.size+2) 4 (cD d).toList).heap.size=W.heap.size:=Vj _ _ _ _;have ht:=h.t.asQ 4 (cD d).toList;rw[show VP _ 4 (cD d).toList=_ from aex T _ d hp hd] at ht;refine⟨h.it.aio (by omega) _ _,h.r.aio (by omega) _ _,ht,Qa (by omega) _ _ _ h.lo,?_,fun y hy=>(h.mem y hy).keep (by rw[hs];omega) fun b h1 h2 h3=>⟨ho b (by omega),h3⟩⟩;exact Xl h.own (by rw[hs];omega) fun b h1 _=>ho b (by omega)
theorem TI.fin {w W:ae}{ib:ax ah}{T:Tb}{k cz:Nat}{Az:aj Addr}{ys:ag L9}(h:TI w ib T k Az cz ys W)(hp:T.prev.length=32)(hm:T.Ku.length=32)(cs:ax ah):
  Ld (W.setRow (w.heap.size+1) cs) (W.setRow (w.heap.size+1) cs).heap.size ⟨{T with JX:=ys.map (·.e)},Az,cz,ys⟩/\ai w.heap.size w (W.setRow (w.heap.size+1) cs):=by
 have ho:∀b,b≠w.heap.size+1->(W.setRow (w.heap.size+1) cs).heap[b]? =W.heap[b]? :=fun b hb=>cZ _ _ b _ hb;have hs:(W.setRow (w.heap.size+1) cs).heap.size=W.heap.size:=by simp[World.setRow]
 have h1:TI w ib T k Az cz ys W:=h;refine⟨⟨rfl,hp,hm,⟨JS.Le (Xl h.own (by rw[hs];omega) fun b h1 _=>ho b (by omega)),fun y hy=>((h.mem y hy).keep (v':=.slice Az k cz) (by rw[hs];omega) fun b h1 h2 h3=>⟨ho b (by omega),h3⟩).at⟩⟩,JR h.lo (bV _) _⟩
theorem as5 (y:L9):∀u∈y.cells.toList,u.oneCell'=true:=by
 have h:=aay [y];simpa[KC] using h
def VV (lo:Nat)(y:Kv):Prop:=UQ lo y.A (KC y.zs)/\∀z∈y.zs,adA lo z.s z.e.z
theorem LV.low {lo lo':Nat}{v:ah}{W:ae}{A:aj Addr}{cs:ag ah}(h:LV lo v W A cs)(hl:lo'<=lo):UQ lo' A cs:=by
 rcases h with h|⟨b,off,h1,h2,_⟩
 ·exact .inl h
 ·exact .inr ⟨b,off,h1,aO hl h2⟩
theorem TI.low {w W:ae}{ib:ax ah}{T T':Tb}{k cz:Nat}{Az:aj Addr}{ys:ag L9}(h:TI w ib T k Az cz ys W):VV w.heap.size ⟨T',Az,cz,ys⟩:=by
 refine⟨?_,fun y hy=>?_⟩
 ·rcases h.own.2 with ⟨hv,hn⟩|⟨g,cap,cur,hv,hg,_⟩
  ·refine .inl ?_;show(KC ys).length=0;rw[h.own.1,hn,gU]
  ·injection hv with h1 _ _;exact .inr ⟨g,0,h1,by omega⟩
 ·obtain⟨h1,h2,h3,h4⟩:=h.mem y hy;exact⟨h1.low (by omega),h2.low (by omega),h3.low (by omega),h4.low (by omega)⟩
end Go.Proofs.YtbaehbbonkljpaaGreatDoor
