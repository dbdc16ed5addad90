/- The texts Wb, Lva, in this order. -/
import Derived.Test.YtbaehbbonkljpaaGreatR00
import Derived.ChangeArms
import Derived.DataReads
import Derived.Deep.Slices
import Derived.OpenShut
import Derived.Test.YtbaehbbonkljpaaGreatR34
import Derived.Test.YtbaehbbonkljpaaGreatR42
import Derived.Test.YtbaehbbonkljpaaGreatR45
import Derived.Test.YtbaehbbonkljpaaGreatR46
import Derived.Test.YtbaehbbonkljpaaGreatR48
set_option maxRecDepth 10000
set_option maxHeartbeats 8000000
namespace Go.Proofs.YtbaehbbonkljpaaGreat
open Go Go.RowKit
theorem PI (w:World):(w.alloc (.cells #[] 5)).ownsRow w.heap.size 5 1 (.slice (some ⟨w.heap.size,0,none⟩) 0 0) 0 []:=
 ⟨rfl, .inr ⟨w.heap.size,0,#[],rfl,Nat.le_refl _,heap_alloc_last w _,Nat.le_refl _,Nat.zero_le _,rfl,rfl⟩⟩
theorem II {w:World} {base e size g n c:Nat} {xs:List Value} (h:w.ownsRow base e size (.slice (some ⟨g,0,none⟩) n c) n xs):n≤c∧c≤9223372036854775807:=by
 rcases h.2 with ⟨h,_⟩|⟨g',cap,cur,hv,_,_,h1,h2,_⟩
 ·cases h
 ·injection hv with _ _ hc;subst hc;exact ⟨h1,h2⟩
theorem Bf {w:World} {base g n c:Nat} {bs:List UInt8} (h:w.ownsRow base 5 1 (.slice (some ⟨g,0,none⟩) n c) n (bs.map Extern.Stop.cell)) (hn:bs.length=n):BytesAt w w.heap.size (some ⟨g,0,none⟩) bs:=by
 subst hn;obtain ⟨A,c',hv,_,_,_,hb⟩:=xY h;injection hv with hA _ _;rw [hA];exact hb
theorem KD {w:World} {g q:Nat} {bs:List UInt8} {cur:Array Value} {t:TypeId} (h:BytesAt w w.heap.size (some ⟨g,0,none⟩) bs) (hg:w.heap[g]? =some (.cells cur t (0,0))) (hq:q<bs.length) (x:UInt8):
  BytesAt (w.setCell ⟨g,q,none⟩ (Extern.Stop.cell x)) (w.setCell ⟨g,q,none⟩ (Extern.Stop.cell x)).heap.size (some ⟨g,0,none⟩) (bs.set q x):=by
 rcases h with h|⟨b,off,hA,hb,hc⟩
 ·omega
 ·injection hA with hA;injection hA with h1 h2;subst h1;subst h2;refine .inr ⟨g,0,rfl,by simpa [World.setCell] using hb,fun j hj=>?_⟩;rw [List.length_set] at hj;rw [Nat.zero_add];have hcj:=hc j hj;rw [Nat.zero_add,cell_of_row w g j _ _ _ hg] at hcj;rw [cell_of_row _ g j _ _ _ (heap_setCell_same w g q _ _ _ hg),Array.getElem?_setIfInBounds];by_cases hqj:q=j
  ·subst hqj;have hcs:q<cur.size:=(bK.1 hcj).1;simp [hcs,hq]
  ·rw [if_neg hqj,hcj,List.getElem?_set_ne hqj]
theorem tq (w:World) (A0:Option Addr) (bs:List UInt8) (len0 cap0:Nat) (r:nU) (x y:Int) (hb:bs.length=len0) (hc1:len0≤cap0) (hc2:cap0≤9223372036854775807) (hBA:BytesAt w w.heap.size A0 bs) (hr:uN w w.heap.size r) (hx0:0≤x) (hx1:x<65536):
  Calls Tryz.prog 3 #[.slice A0 len0 cap0, .agg r.cells.toArray, .agg #[.int .u16 x, .int .u16 y]] w (Gives (.bool true) w):=by
 have HRI:Hid ((Tryz.prog.info? 27).map (·.size)=some r.cells.toArray.size):=ae (by rw [show r.cells.toArray.size=34 by simpa using nU.len r hr.key];kernel_rfl);have HB0:=ae (ai (ag w (.cells r.cells.toArray 27)) (ag _ (.cells #[.int .u16 x, .int .u16 y] 29)));have HR0:=ae ((Row.new w r.cells.toArray 27).keep (ag _ (.cells #[.int .u16 x, .int .u16 y] 29)));have HX0:=ae (Row.new (w.alloc (.cells r.cells.toArray 27)) #[.int .u16 x, .int .u16 y] 29);rw [World.size_alloc] at HX0;have YV:Hid (∀W,Below w.heap.size w W→Calls Tryz.prog 6 #[.agg r.cells.toArray] W (Rf W)):=ae fun W h=>TC r W ((hr.keep h).more h.size);have Vr:Hid (∀W,Below w.heap.size w W→Calls Tryz.prog 5 #[.slice A0 len0 cap0] W (Gives (.bool true) W)):=ae fun W h=>xJ W bs A0 len0 cap0 hb hc1 hc2 ((hBA.keep h).more h.size);unfold Rf at YV;obtain ⟨i0',hi',hz0,hz1,hz2⟩:=info_parts lh;clear hr hBA hb;go_enter Tryz.func3,Tryz.ntmps3;go_upto_region 1 with fail;generalize (w.alloc (.cells r.cells.toArray 27)).alloc (.cells #[.int .u16 x, .int .u16 y] 29)=W0 at HB0 HR0 HX0 ⊢;go_wp2_with fail;refine (L9 W0).mono ?_;rintro e w1 ⟨rfl,b1⟩;have HB1:=ae (ai HB0.out b1);have HR1:=ae (HR0.out.keep b1);have uf:=ae (HX0.out.keep b1);clear b1 HB0 HR0 HX0;by_cases h2000:2000<len0
 ·have h2:(2000:Int)<(len0:Int):=by omega
  go_wp2_with fail;go_ret;exact ⟨rfl,HB1.out⟩
 have h2:¬(2000:Int)<(len0:Int):=by omega
 go_wp2_with fail;refine (Vr.out w1 HB1.out).mono ?_;rintro e w2 ⟨rfl,b2⟩;have HB2:=ae (ai HB1.out b2);have HR2:=ae (HR1.out.keep b2);have ug:=ae (uf.out.keep b2);clear b2 HB1 HR1 uf Vr;go_wp2_with ((with_reducible refine fU 27 ?_);go_must (refine aX rfl _ _ rfl w.heap.size rfl r.cells.toArray HR2.out _ Tryz.underlying27 rfl HRI.out ?_));refine (YV.out w2 HB2.out).mono ?_;rintro e w6 ⟨A,n,c,ts,rfl,htl,Zl,hca,Ed,_,hb6⟩;have Gu:=ae (ai HB2.out hb6);have oK:=ae (ug.out.keep hb6);have zt:=ae htl;have HCA:=ae hca;have HTM:=ae Ed;clear htl hca Ed hb6 HB2 HR2 ug YV HRI;go_wp2_with fail
 go_loopw [9,10,11,12] (fun i _ _ _ wr=>∃k:Nat,k≤n∧i=I k∧Below w6.heap.size w6 wr) (fun i _ _ _ _=>n - (intOf i).toNat)
 case atStart=>exact ⟨0,Nat.zero_le _,rfl,Below.refl _ _⟩
 case round=>
  obtain ⟨k,hk,rfl,hb⟩:=hrel;have HB:=ae hb;clear hb;by_cases hlt:k<n
  ·have i0:(0:Int)≤(k:Int):=by omega
   have i1:(k:Int)<(n:Int):=by omega
   obtain ⟨z,hz⟩:∃z,ts[k]? =some z:=⟨_,bZ (by rw [zt.out];omega)⟩;have hzm:=gU hz;obtain ⟨cb,co,rfl,hcb,hTA⟩:∃b off,A=some ⟨b,off,none⟩∧b<w6.heap.size∧sF w6 b off ts:=by
    rcases zG HCA.out with h1|h1
    ·have:=zt.out;omega
    ·exact h1
   have HZR:Hid (∀W,Below w6.heap.size w6 W→W.rangeAt cb (co+k*68) z.cells):=ae fun W h=>aU (hTA k z hz).1 h hcb;have hz68:=(hTA k z hz).2;have QC:Hid ((Tryz.prog.info? 39).map (·.size)=some z.cells.length):=ae (by rw [hz68];kernel_rfl);have Vx:=ae (HCA.out.each z hzm);have HZM:=ae (HTM.out z hzm);have DN:=ae (HZM.out.good Vx.out.prev Vx.out.dQ);have HTV:=ae (NR DN.out Vx.out.names (HZM.out.up Vx.out.names));have HTY:=ae (BI HTV.out Vx.out.prev Vx.out.dQ);have DF:Hid (Calls Tryz.prog 7 #[.agg z.cells.toArray] wr (OB wr z.t)):=ae (qN z wr (Vx.out.grow HB.out) HTV.out);obtain ⟨N,hN⟩:∃N,(pJ z.t).length=N:=⟨_,rfl⟩;have HN:=ae hN;have hN1:N≤700000:=by rw [←hN,zI];exact (wQ z.t HTY.out).2
   have hN0:36≤N:=by rw [←hN,zI];exact (wQ z.t HTY.out).1
   have hwr:=HB.out.size;clear hz hzm hTA hN;go_wp2_with ((with_reducible refine fU 39 ?_);go_must (refine dw rfl _ _ rfl cb (co+k*68) rfl z.cells (HZR.out _ HB.out) _ Tryz.underlying39 rfl QC.out ?_));refine DF.out.mono ?_;rintro e w7 ⟨A7,n7,c7,Zj,rfl,ho7,hb7⟩;have hn7:N=n7:=HN.out.symm.trans Zj;subst hn7;obtain ⟨g7,cap7,hA7,_⟩:=fM ho7 (by omega);injection hA7 with hA7 _ hc7;subst hA7;subst hc7;have pR:=ae (ai HB.out hb7);have VZ:=ae ho7;have hNz:((N:Int)==0)=false:=by simp;omega
   have hNz2:¬(N:Int)=0:=by omega
   have hNz3:¬N=0:=by omega
   clear ho7 hb7 DF Zj HZR QC Vx HZM DN hz68;have HOE:=ae (PI w7);go_wp2_with (at_builtin;go_must (refine wpList_append_own_at _ rfl _ _ 22 rfl w7.heap.size 5 i0' (.int .u8 0) 1 1 Tryz.underlying22 hi' hz0 hz1 hz2 rfl (by decide) _ 0 [] rfl HOE.out ⟨g7,0,none⟩ N c7 ((pJ z.t).map Extern.Stop.cell) rfl (by rw [List.length_map,HN.out];omega) ((own_below VZ.out (ag w7 _)).cells rfl) (by intro u hu;obtain ⟨z,_,rfl⟩:=List.mem_map.1 hu;rfl) (by unfold maxLen;omega) (by omega) (by simp) ?_));intro v' w8 AA hg8 _ _;have VO:Hid (Below w7.heap.size w7 w8):=ae (dm (ag w7 _) HOE.out (by simp) hg8);obtain ⟨g8,c8,rfl,_⟩:=fM AA (by omega);have AA:w8.ownsRow w7.heap.size 5 1 (.slice (some ⟨g8,0,none⟩) N c8) N ((pJ z.t).map Extern.Stop.cell):=by simpa using AA
   have Zi:=II AA;obtain ⟨cur,Ff,hlo8,_,_,hcsz,htk,_,_⟩:=kF AA;have ZQ:=ae (Bf AA HN.out);have HOW8:=ae (own_below VZ.out VO.out);have Qq:=ae (ai pR.out VO.out);have hX8:=oK.out.keep Qq.out;have hx8:w8.cell? ⟨w.heap.size+1,0,none⟩=some (.int .u16 x):=hX8.2 0;have hy8:w8.cell? ⟨w.heap.size+1,1,none⟩=some (.int .u16 y):=hX8.2 1;have hnn:¬(N:Int)=0:=by omega
   have hq0:0≤x%(N:Int):=Int.emod_nonneg _ hnn;have hq1:x%(N:Int)<(N:Int):=Int.emod_lt_of_pos _ (by omega);have Ed:x.tmod (N:Int)=x%(N:Int):=Int.tmod_eq_emod_of_nonneg hx0;obtain ⟨q,hq⟩:∃q:Nat,x%(N:Int)=(q:Int):=⟨(x%(N:Int)).toNat,by omega⟩;rw [hq] at hq0 hq1 Ed;have hqN:q<N:=by omega
   have hfq:=frozen_of_row w8 g8 q _ _ Ff;have hcq:w8.cell? ⟨g8,q,none⟩=some (Extern.Stop.cell ((pJ z.t)[q]?.getD 0)):=by
    rcases ZQ.out with h|⟨b,off,hA,_,hc⟩
    ·have:=HN.out;omega
    ·injection hA with hA;injection hA with h1 h2;subst h1;subst h2;have h:=hc q (by rw [HN.out];exact hqN)
     rwa [Nat.zero_add] at h
   have hwx:IntKind.i64.wrap x=x:=by rw [IntKind.wrap_i64];omega
   have hwy:IntKind.u8.wrap y=y%256:=by rw [IntKind.wrap_u8]
   have ZR:=ae (KD ZQ.out Ff (by rw [HN.out];exact hqN) (byteOf y));have Ec:Below w7.heap.size w7 (w8.setCell ⟨g8,q,none⟩ (Extern.Stop.cell (byteOf y))):=VO.out.setCell (p:=⟨g8,q,none⟩) hlo8 _;rw [fQ] at ZR Ec;have Qr:=ae (ai pR.out Ec);have HOW9:=ae (own_below VZ.out Ec);have HCP:=ae Zi;clear AA hg8 Ff hcsz htk Zi ZQ HOW8 HOE VO hX8 hq Ec;go_upto_region 12 with fail;go_still_tail 11,(by kernel_rfl);go_wp2_with fail;have EE:Hid (N≤c7∧c7≤9223372036854775807):=ae (II VZ.out);have hD:=(Below.refl (w8.setCell ⟨g8,q,none⟩ (.int .u8 (y%256))).heap.size (w8.setCell ⟨g8,q,none⟩ (.int .u8 (y%256)))).drew;have uT:=ae (ai Qr.out hD);have Nc:=ae (BytesAt.keep ZR.out hD);have QS:=ae (own_below HOW9.out hD);clear hD Qr ZR HOW9 hx8 hy8 hfq hcq Ed hq0 hq1 hwx hwy;have hsD:((w8.setCell ⟨g8,q,none⟩ (.int .u8 (y%256))).drew).heap.size=(w8.setCell ⟨g8,q,none⟩ (.int .u8 (y%256))).heap.size:=rfl;rw [←hsD] at Nc;clear hsD;generalize (w8.setCell ⟨g8,q,none⟩ (.int .u8 (y%256))).drew=w10 at uT Nc QS ⊢;refine (xJ w10 (pJ z.t) (some ⟨g7,0,none⟩) N c7 HN.out EE.out.1 EE.out.2 (Bf QS.out HN.out)).mono ?_;rintro e Qi ⟨rfl,Fe⟩;have HB11:=ae (ai uT.out Fe);have YM:=ae ((Nc.out.keep Fe).more Fe.size);clear Fe uT Nc QS;go_wp2_with fail;refine (xJ Qi ((pJ z.t).set q (byteOf y)) (some ⟨g8,0,none⟩) N c8 (by rw [List.length_set];exact HN.out) HCP.out.1 HCP.out.2 YM.out).mono ?_;rintro e w12 ⟨rfl,KR⟩;have HB12:=ae (ai HB11.out KR);clear KR HB11 YM;go_wp2_with fail;go_roundw
   case rel=>exact ⟨k+1,hlt,by go_num,HB12.out⟩
   case measure=>simp [intOf];have:=hlt;omega
  ·have hkn:k=n:=by omega
   have hlt':¬(k:Int)<(n:Int):=by omega
   clear hlt hkn;go_wp2_with fail;go_ret;exact ⟨rfl,Gu.out.trans (HB.out.mono Gu.out.size)⟩
set_option maxRecDepth 100000
section
variable {H:Type} {enc:TypeId×Value→H} {W:World} {fuel:Nat} {cs:List Value} {x:DataW H×List MemPlace}
theorem Be (h:DataW.trod enc Tryz.prog W 0 (fun _=>true) true fuel 5 cs=some x):∃b:UInt8,cs= [Extern.Stop.cell b]:=by
 obtain ⟨n,rfl,_,hw⟩:=DataW.trod_int Tryz.underlying5 h;have hb:=bounds_u8 hw;exact ⟨byteOf n,by rw [fQ,Int.emod_eq_of_lt hb.1 (by omega)]⟩
theorem Xr {α:Type} (f:α→Value) (l:List Value) (h:∀(i:Nat) (v:Value),l[i]? =some v→∃a,v=f a):∃us:List α,us.length=l.length∧l=us.map f:=by
 induction l with
 |nil=>exact ⟨[],rfl,rfl⟩
 |cons v l ih=>
  obtain ⟨a,rfl⟩:=h 0 v rfl;obtain ⟨us,h1,h2⟩:=ih (fun i v hv=>h (i+1) v (by simpa using hv));exact ⟨a::us,by rw [List.length_cons,List.length_cons,h1],by rw [List.map_cons,←h2]⟩
theorem LG {t:TypeId} {n:Nat} (ht:Tryz.prog.underlying t=some (.array n 5)) (hl:Tryz.prog.cellsOf t=n) (h:DataW.trod enc Tryz.prog W 0 (fun _=>true) true fuel t cs=some x):∃bs:List UInt8,bs.length=n∧cs=bs.map Extern.Stop.cell:=by
 obtain ⟨xs,m,_,_,hlen,hxl,hi⟩:=DataW.trod_array ht h;have h1:Tryz.prog.cellsOf 5=1:=by kernel_rfl
 rw [hl] at hlen;obtain ⟨bs,hb,e⟩:=Xr Extern.Stop.cell cs (fun i v hv=>by
  have hil:=(iT.1 hv).1;have h2:=hi i (by omega);rw [h1,Nat.mul_one,bZ (by omega)] at h2;obtain ⟨b,hb⟩:=Be h2;refine ⟨b,?_⟩;have h3:((cs.drop i).take 1)[0]? =some v:=by rw [List.getElem?_take_of_lt (by omega),List.getElem?_drop,Nat.add_zero];exact hv
  rw [hb] at h3;injection h3 with h3;exact h3.symm)
 exact ⟨bs,by omega,e⟩
theorem Bd {α:Type} [Inhabited α] (s:Nat) (f:α→List Value) (G:α→Prop) {t e:TypeId} (ht:Tryz.prog.underlying t=some (.slice e)) (hs:Tryz.prog.cellsOf e=s) (h0:0<s) (hop:∀n cs' y,DataW.trod enc Tryz.prog W 0 (fun _=>true) true n e cs'=some y→∃v,cs'=f v∧G v) (h:DataW.trod enc Tryz.prog W 0 (fun _=>true) true fuel t cs=some x):
  ∃(A:Option Addr) (len cap:Nat) (vs:List α),cs= [.slice A len cap]∧vs.length=len∧len≤cap∧cap≤9223372036854775807∧az W W.heap.size A (vs.flatMap f)∧∀v∈vs,G v:=by
 rcases Go.Deep.open_slice ht h with ⟨rfl,_⟩|⟨a,len,cap,m,n,D,Pl,rfl,_,hl,hm,hmm,_,hi⟩
 ·exact ⟨none,0,0,[],rfl,rfl,Nat.le_refl _,Nat.zero_le _, .inl rfl,fun _ h=>nomatch h⟩
 ·have hml:m=cap:=by simpa using hmm
  obtain ⟨V,hV⟩:=Go.Deep.choose_lt (α:=α) (p:=fun i v=>G v∧(f v).length=s∧∀j,j<s→W.cell? ((a.add (i*s)).add j)=(f v)[j]?) (n:=len) (fun i hi'=>by
   obtain ⟨cs',h1,h2⟩:=hi i (by omega);obtain ⟨v,rfl,hg⟩:=hop _ _ _ h2;obtain ⟨_,hlen,hc⟩:=World.cells?_some h1;rw [hs] at hlen hc;exact ⟨v,hg,hlen,hc⟩)
  have hall:∀v∈(List.range len).map V,(f v).length=s:=fun v hv=>by
   obtain ⟨i,hi2,rfl⟩:=List.mem_map.1 hv;exact (hV i (List.mem_range.1 hi2)).2.1
  refine ⟨some a,len,cap,(List.range len).map V,rfl,by simp,hl,by unfold maxLen at hm;omega,?_,fun v hv=>?_⟩
  ·by_cases h00:len=0
   ·subst h00;exact .inl rfl
   ·obtain ⟨b,o,sp⟩:=a;obtain ⟨u0,hc0⟩:∃u,W.cell? (((⟨b,o,sp⟩:Addr).add (0*s)).add 0)=some u:=⟨_,((hV 0 (by omega)).2.2 0 h0).trans (bZ (by rw [(hV 0 (by omega)).2.1];exact h0))⟩;have hspot:sp=none:=by simpa [Addr.add] using World.cell?_spot hc0
    subst hspot;rw [Addr.add_mid,Addr.add_mid] at hc0;have hb:b<W.heap.size:=by
     apply Classical.byContradiction;intro hn;have h2:W.heap[b]? =none:=Array.getElem?_eq_none (by omega);simp [World.cell?,h2] at hc0
    refine .inr ⟨b,o,rfl,hb,fun j u hu=>?_⟩;have hjl:=(iT.1 hu).1;rw [cu f _ hall,List.length_map,List.length_range] at hjl;have hk:j / s<len:=Nat.div_lt_of_lt_mul (by rw [Nat.mul_comm];exact hjl);have hr:j%s<s:=Nat.mod_lt _ h0;have hjj:j / s*s+j%s=j:=by rw [Nat.mul_comm];exact Nat.div_add_mod j s
    have hg:=flat_get f _ hall (j / s) (j%s) (V (j / s)) (by rw [List.getElem?_map,List.getElem?_range hk];rfl) hr;rw [hjj] at hg;have hc:=(hV (j / s) hk).2.2 (j%s) hr;rw [Addr.add_mid,Addr.add_mid,Nat.add_assoc,hjj] at hc;rw [hc,←hg];exact hu
  ·obtain ⟨i,hi2,rfl⟩:=List.mem_map.1 hv;exact (hV i (List.mem_range.1 hi2)).1
theorem IG (h:DataW.trod enc Tryz.prog W 0 (fun _=>true) true fuel 22 cs=some x):∃(A:Option Addr) (cap:Nat) (bs:List UInt8),cs= [.slice A bs.length cap]∧bs.length≤9223372036854775807∧az W W.heap.size A (bs.map Extern.Stop.cell):=by
 obtain ⟨A,len,cap,vs,rfl,rfl,h1,h2,h3,_⟩:=Bd (α:=UInt8) 1 (fun b=> [Extern.Stop.cell b]) (fun _=>True) Tryz.underlying22 (by kernel_rfl) (by omega) (fun n cs' y h=>by
  obtain ⟨b,e⟩:=Be h;exact ⟨b,e,trivial⟩) h
 exact ⟨A,cap,vs,rfl,by omega,by rw [List.map_eq_flatMap];exact h3⟩
instance:Inhabited CV:=⟨⟨⟨0,[],[],0,0,0,0,0,0,0,0,0,0,false⟩,none,none,0,0⟩⟩
instance:Inhabited Hl:=⟨⟨none,0,[],0⟩⟩
instance:Inhabited nU:=⟨⟨0,[],none,0,[]⟩⟩
theorem op_rw (h:DataW.trod enc Tryz.prog W 0 (fun _=>true) true fuel 99 cs=some x):∃v:CV,cs=v.cells∧EN W W.heap.size v:=by
 obtain ⟨xs,n,_,_,hlen,hxl,hf⟩:=DataW.trod_struct Tryz.underlying99 h;have k14:Tryz.prog.cellsOf 99=14:=by kernel_rfl
 have k1:Tryz.prog.cellsOf 5=1:=by kernel_rfl
 have kb:Tryz.prog.cellsOf 4=1:=by kernel_rfl
 have ks:Tryz.prog.cellsOf 22=1:=by kernel_rfl
 have k8:Tryz.prog.cellsOf 97=8:=by kernel_rfl
 have k4:Tryz.prog.cellsOf 96=4:=by kernel_rfl
 rw [k14] at hlen
 match cs,hlen,xs,hxl with
 | [c0,c1,c2,c3,c4,c5,c6,c7,c8,c9,c10,c11,c12,c13],_,[y0,y1,y2,y3,y4,y5,y6],_=>
  have g0:DataW.trod enc Tryz.prog W 0 (fun _=>true) true n 5 [c0]=some y0:=by simpa [k1] using hf 0 _ rfl
  have g1:DataW.trod enc Tryz.prog W 0 (fun _=>true) true n 22 [c1]=some y1:=by simpa [ks] using hf 1 _ rfl
  have g2:DataW.trod enc Tryz.prog W 0 (fun _=>true) true n 22 [c2]=some y2:=by simpa [ks] using hf 2 _ rfl
  have g3:DataW.trod enc Tryz.prog W 0 (fun _=>true) true n 5 [c3]=some y3:=by simpa [k1] using hf 3 _ rfl
  have g4:DataW.trod enc Tryz.prog W 0 (fun _=>true) true n 97 [c4,c5,c6,c7,c8,c9,c10,c11]=some y4:=by simpa [k8] using hf 4 _ rfl
  have g5:DataW.trod enc Tryz.prog W 0 (fun _=>true) true n 5 [c12]=some y5:=by simpa [k1] using hf 5 _ rfl
  have g6:DataW.trod enc Tryz.prog W 0 (fun _=>true) true n 4 [c13]=some y6:=by simpa [kb] using hf 6 _ rfl
  obtain ⟨b0,e0⟩:=Be g0;obtain ⟨G,gc,gs,e1,hg1,hg2⟩:=IG g1;obtain ⟨O,oc,os,e2,ho1,ho2⟩:=IG g2;obtain ⟨b3,e3⟩:=Be g3;obtain ⟨zs,m,_,_,_,hzl,hz⟩:=DataW.trod_array Tryz.underlying97 g4;have z0:=hz 0 (by omega);have z1:=hz 1 (by omega);rw [k4,bZ (by omega)] at z0 z1;obtain ⟨a,ha1,ha⟩:=LG Tryz.underlying96 k4 z0;obtain ⟨a',ha1',ha'⟩:=LG Tryz.underlying96 k4 z1;obtain ⟨b5,e5⟩:=Be g5;obtain ⟨b6,e6,_⟩:=DataW.trod_bool Tryz.underlying4 g6
  match a,ha1,a',ha1' with
  | [a0,a1,a2,a3],_,[a4,a5,a6,a7],_=>
   simp only [Nat.zero_mul,List.drop_zero,List.take_succ_cons,List.take_zero,List.map_cons,List.map_nil,List.cons.injEq,and_true] at ha;simp only [Nat.one_mul,List.drop_succ_cons,List.drop_zero,List.take_succ_cons,List.take_zero,List.map_cons,List.map_nil,List.cons.injEq,and_true] at ha';simp only [List.cons.injEq,and_true] at e0 e1 e2 e3 e5 e6;obtain ⟨h4,h5,h6,h7⟩:=ha;obtain ⟨h8,h9,h10,h11⟩:=ha';refine ⟨⟨⟨b0,gs,os,b3,a0,a1,a2,a3,a4,a5,a6,a7,b5,b6⟩,G,O,gc,oc⟩,?_,⟨hg1,ho1,hg2,ho2⟩⟩;rw [e0,e1,e2,e3,h4,h5,h6,h7,h8,h9,h10,h11,e5,e6];rfl
theorem op_it (h:DataW.trod enc Tryz.prog W 0 (fun _=>true) true fuel 66 cs=some x):∃v:Hl,cs=v.cells.toList∧CS W W.heap.size v:=by
 obtain ⟨xs,n,_,_,hlen,hxl,hf⟩:=DataW.trod_struct Tryz.underlying66 h;have k2:Tryz.prog.cellsOf 66=2:=by kernel_rfl
 have k1:Tryz.prog.cellsOf 5=1:=by kernel_rfl
 have ks:Tryz.prog.cellsOf 64=1:=by kernel_rfl
 rw [k2] at hlen
 match cs,hlen,xs,hxl with
 | [c0,c1],_,[y0,y1],_=>
  have g0:DataW.trod enc Tryz.prog W 0 (fun _=>true) true n 64 [c0]=some y0:=by simpa [ks] using hf 0 _ rfl
  have g1:DataW.trod enc Tryz.prog W 0 (fun _=>true) true n 5 [c1]=some y1:=by simpa [k1] using hf 1 _ rfl
  obtain ⟨A,len,cap,vs,e0,rfl,h1,h2,h3,h4⟩:=Bd 14 CV.cells (EN W W.heap.size) Tryz.underlying64 (by kernel_rfl) (by omega) (fun n cs' y h=>op_rw h) g0;obtain ⟨b1,e1⟩:=Be g1;simp only [List.cons.injEq,and_true] at e0 e1;refine ⟨⟨A,cap,vs,b1⟩,?_,⟨by show vs.length≤_;omega,h3,h4⟩⟩;rw [e0,e1];rfl
theorem op_raw (h:DataW.trod enc Tryz.prog W 0 (fun _=>true) true fuel 27 cs=some x):∃v:nU,cs=v.cells∧uN W W.heap.size v:=by
 obtain ⟨xs,n,_,_,hlen,hxl,hf⟩:=DataW.trod_struct Tryz.underlying27 h;have k34:Tryz.prog.cellsOf 27=34:=by kernel_rfl
 have k1:Tryz.prog.cellsOf 5=1:=by kernel_rfl
 have k32:Tryz.prog.cellsOf 24=32:=by kernel_rfl
 have ks:Tryz.prog.cellsOf 25=1:=by kernel_rfl
 rw [k34] at hlen
 match xs,hxl with
 | [y0,y1,y2],_=>
  have g0:DataW.trod enc Tryz.prog W 0 (fun _=>true) true n 5 (cs.take 1)=some y0:=by simpa [k1] using hf 0 _ rfl
  have g1:DataW.trod enc Tryz.prog W 0 (fun _=>true) true n 24 ((cs.drop 1).take 32)=some y1:=by simpa [k32] using hf 1 _ rfl
  have g2:DataW.trod enc Tryz.prog W 0 (fun _=>true) true n 25 ((cs.drop 33).take 1)=some y2:=by simpa [ks] using hf 2 _ rfl
  obtain ⟨b0,e0⟩:=Be g0;obtain ⟨key,hk,e1⟩:=LG Tryz.underlying24 k32 g1;obtain ⟨A,len,cap,vs,e2,rfl,h1,h2,h3,h4⟩:=Bd 2 (fun v:Hl=>v.cells.toList) (CS W W.heap.size) Tryz.underlying25 (by kernel_rfl) (by omega) (fun n cs' y h=>op_it h) g2;refine ⟨⟨b0,key,A,cap,vs⟩,?_,⟨hk,by show vs.length≤_;omega,h3,h4⟩⟩;have d1:cs=cs.take 1++cs.drop 1:=(List.take_append_drop 1 cs).symm;have d2:cs.drop 1=(cs.drop 1).take 32++cs.drop 33:=by
   have:=(List.take_append_drop 32 (cs.drop 1)).symm;rw [List.drop_drop] at this;exact this
  have d3:cs.drop 33=(cs.drop 33).take 1:=(List.take_of_length_le (by rw [List.length_drop];omega)).symm;rw [d1,d2,d3,e0,e1,e2];rfl
end
end Go.Proofs.YtbaehbbonkljpaaGreat
