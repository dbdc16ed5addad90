/- The texts Wi, Lva, Wj, in this order. -/
import Derived.Test.YtbaehbbonkljpaaGreatDoorS00
import Derived.ChangeArms
import Derived.DataReads
import Derived.Deep.Slices
import Derived.OpenShut
import Derived.Test.YtbaehbbonkljpaaGreatDoorS06
import Derived.Test.YtbaehbbonkljpaaGreatDoorS41
import Derived.Test.YtbaehbbonkljpaaGreatDoorS45
import Derived.Test.YtbaehbbonkljpaaGreatDoorS46
import Derived.Test.YtbaehbbonkljpaaGreatDoorS48
import Derived.Test.YtbaehbbonkljpaaGreatDoorS49
set_option maxRecDepth 10000
set_option maxHeartbeats 8000000
namespace Go.Proofs.YtbaehbbonkljpaaGreatDoor
open Go Go.RowKit
theorem SmE.len {e:Ze} (h:SmE e):jB e.z:=⟨by have:=h.2.1;omega,by have:=h.2.2.1;omega,by have:=h.2.2.2.1;omega,by have:=h.2.2.2.2;omega⟩
theorem LQ (t:Tb) (h:t.aF.length<=6) (hp:t.prev.length=32) (hm:t.bP.length=32):(tu t).length<=90000:=by
 by_cases h0:mg t=0
 ·have hy:=JZ h0 hp hm;have h1:=Dz t.aF fun e he=>⟨hy.good e he,hy.short e he⟩;rw [show tu t=lJ t from if_pos h0];simp only [lJ,bF,aC];omega
 ·rw [show tu t= [] from if_neg h0];exact Nat.zero_le _
theorem UL {W:World} {b:Nat} {r:lK} (h:Row W b r.cells.toArray):W.rangeAt b 1 (ax r.key):=fun j v hv=>by
 rw [h.2 (1+j)];unfold lK.cells;have hj:=(gQ.1 hv).1;rw [List.getElem?_toArray,Nat.add_comm 1 j,List.getElem?_cons_succ,List.getElem?_append_left hj];exact hv
theorem yM (w:World) (hG:gK w 0 (aj qx)) (hw0:0<w.heap.size) (x:dF) (r:lK) (name:ByteArray) (hx:fV w w.heap.size x) (hr:vS w w.heap.size r):
  Calls Tryz.prog 3 #[.agg (ai x.t (.slice x.A x.zs.length x.c)), .agg r.cells.toArray, .string name] w (Gives (.bool true) w):=by
 have hK:qx.length=64:=rfl;have hkl:=hr.key;have HRI:Hid ((Tryz.prog.info? 29).map (·.size)=some r.cells.toArray.size):=ae (by rw [show r.cells.toArray.size=34 by simpa using lK.len r hr.key];kernel_rfl);have HKI:Hid ((Tryz.prog.info? 24).map (·.size)=some (ax r.key).length):=ae (by have:=BN r.key hkl;rw [this];simp [cellsB]);have dU:Hid (∀v,(Tryz.prog.info? 26).map (·.size)=some (ai x.t v).size):=ae fun v=>bD x.t v hx.prev hx.bP;have ZC:Hid (∀W,Below w.heap.size w W->Calls Tryz.prog 7 #[.agg r.cells.toArray] W (SE W r)):=ae fun W h=>Us r W ((hr.keep h).more h.size);unfold SE at ZC;have HSM:Hid (∀W,Below w.heap.size w W->Calls Tryz.prog 6 #[.agg (ai x.t (.slice x.A x.zs.length x.c))] W (SmP W x.zs)):=ae fun W h=>QH x W ((hx.keep h).more h.size);have HAG:Hid (∀(W:World) (y:dF) (nm:ByteArray),Below w.heap.size w W->fV W W.heap.size y->y.zs.length<=6->(∀u∈y.zs,jB u.e.z)->Calls Tryz.prog 8 #[.agg (ai y.t (.slice y.A y.zs.length y.c)), .agg (cellsB r.key), .string nm] W (Gives (.bool true) W)):=
  ae fun W y nm hb hy h6 hl=>LG hK r.key hkl y nm W (hG.via hb hw0) (dP hw0 hb.size) hy (by omega) hl (LQ y.t (by rw [hy.names,List.length_map];exact h6) hy.prev hy.bP)
 have HX:Hid (∀W,Below w.heap.size w W->fV W W.heap.size x):=ae fun W hb=>(hx.keep hb).more hb.size;have HT0:=ae ((Row.new w (ai x.t (.slice x.A x.zs.length x.c)) 26).keep (ag _ (.cells r.cells.toArray 29)));have HR0:=ae (Row.new (w.alloc (.cells (ai x.t (.slice x.A x.zs.length x.c)) 26)) r.cells.toArray 29);rw [World.size_alloc] at HR0;have HB0:=ae (ah (ag w (.cells (ai x.t (.slice x.A x.zs.length x.c)) 26)) (ag _ (.cells r.cells.toArray 29)));clear hG hw0 hx hr hK hkl;go_enter Tryz.func3,Tryz.ntmps3;go_upto_region 1 with fail;generalize (w.alloc (.cells (ai x.t (.slice x.A x.zs.length x.c)) 26)).alloc (.cells r.cells.toArray 29)=W0 at HT0 HR0 HB0 ⊢;go_wp2_with fail;refine (Nw W0).mono ?_;rintro e w1 ⟨rfl,b1⟩;have HT1:=ae (HT0.out.keep b1);have HR1:=ae (HR0.out.keep b1);have HB1:=ae (ah HB0.out b1);clear b1 HT0 HR0 HB0;go_wp2_with ((with_reducible refine eF 26 ?_);go_must (refine aJ rfl _ _ rfl w.heap.size rfl (ai x.t (.slice x.A x.zs.length x.c)) HT1.out _ Tryz.underlying26 rfl (dU.out _) ?_));refine (HSM.out w1 HB1.out).mono ?_;rintro e w2 ⟨q,rfl,hq,b2⟩;have HT2:=ae (HT1.out.keep b2);have HR2:=ae (HR1.out.keep b2);have HB2:=ae (ah HB1.out b2);have HQ:=ae hq;clear b2 hq HT1 HR1 HB1 HSM;cases q with
 |false=>
  go_wp2_with fail;go_ret;exact ⟨rfl,HB2.out⟩
 |true=>
  have HSQ:=ae (HQ.out rfl);clear HQ;obtain ⟨nl,hnl⟩:∃n,name.size=n:=⟨_,rfl⟩;by_cases h100:100<nl
  ·have h1:(100:Int)<(nl:Int):=by omega
   go_wp2_with fail;go_ret;exact ⟨rfl,HB2.out⟩
  have h1:¬(100:Int)<(nl:Int):=by omega
  go_upto_region 4 with fail;clear hnl;go_wp2_with ((with_reducible refine dY 29 ?_);go_must (refine aJ rfl _ _ rfl (w.heap.size+1) rfl r.cells.toArray HR2.out _ Tryz.underlying29 rfl HRI.out ?_));refine (ZC.out w2 HB2.out).mono ?_;rintro e w6 ⟨A,n,c,ts,rfl,htl,hn5,hnc,hca,hcx,_,hb6⟩;have Rt:=ae fun (W:World) (hb:Below w6.heap.size w6 W)=>HT2.out.keep (ah hb6 hb);have HKY:Hid (∀W,Below w6.heap.size w6 W->W.rangeAt (w.heap.size+1) 1 (ax r.key)):=ae fun W hb=>UL (HR2.out.keep (ah hb6 hb));have zS:=ae (ah HB2.out hb6);have xY:=ae htl;have HCA:=ae hca;have yf:=ae hcx;clear htl hca hcx hb6 HT2 HR2 HB2 ZC HRI;go_wp2_with fail
  go_loopw [9] (fun i wr=>∃k:Nat,k<=n/\i=I k/\Below w6.heap.size w6 wr) (fun i _=>n - (intOf i).toNat)
  case atStart=>exact ⟨0,Nat.zero_le _,rfl,Below.refl _ _⟩
  case round=>
   obtain ⟨k,hk,rfl,hb⟩:=hrel;have HB:=ae hb;clear hb;by_cases hlt:k<n
   ·have i0:(0:Int)<=(k:Int):=by omega
    have i1:(k:Int)<(n:Int):=by omega
    obtain ⟨z,hz⟩:∃z,ts[k]? =some z:=⟨_,bK (by rw [xY.out];omega)⟩;have hzm:=gZ hz;obtain ⟨cb,co,rfl,hcb,hTA⟩:∃b off,A=some ⟨b,off,none⟩/\b<w6.heap.size/\uh w6 b off ts:=by
     rcases Am HCA.out with h1|h1
     ·have:=xY.out;omega
     ·exact h1
    have HZR:Hid (∀W,Below w6.heap.size w6 W->W.rangeAt cb (co+k*68) z.cells):=ae fun W h=>aS (hTA k z hz).1 h hcb;have hz68:=(hTA k z hz).2;have hzi:(Tryz.prog.info? 26).map (·.size)=some z.cells.length:=by rw [hz68];kernel_rfl
    have hki:=HKI.out;have hmd:=yf.out.made z hzm;have hza:=HCA.out.each z hzm;have h6:z.zs.length<=6:=by
     have h1:=hmd.num;rw [hza.names,List.length_map] at h1;omega
    have hzl:∀u∈z.zs,jB u.e.z:=fun u hu=>(hmd.aF u.e (by rw [hza.names];exact List.mem_map_of_mem hu)).made.len;have iM:Hid (∀W,Below w6.heap.size w6 W->Calls Tryz.prog 8 #[.agg z.cells.toArray, .agg (ax r.key).toArray, .string ⟨#[122,97]⟩] W (Gives (.bool true) W)):=ae fun W hb=>HAG.out W z _ (ah zS.out hb) (hza.grow hb) h6 hzl;have oD:Hid (∀W,Below wr.heap.size wr W->W.rangeAt cb (co+k*68) z.cells/\W.rangeAt (w.heap.size+1) 1 (ax r.key)):=ae fun W hb=>⟨HZR.out W (ah HB.out hb),HKY.out W (ah HB.out hb)⟩;clear hz hzm hTA hmd hza h6 hzl hz68 HZR;go_upto_region 8 with fail;refine wp_region_held_drew (S:=fun W=>W.rangeAt cb (co+k*68) z.cells/\W.rangeAt (w.heap.size+1) 1 (ax r.key)) (by kernel_rfl) (oD.out _ (Below.refl _ wr).drew) (fun hH=>?_);refine iQ 0 ( .slice (some ⟨cb,co,none⟩) n c) 28 rfl rfl hH (fun W hW=>by clear hW;go_simp) ?_;refine az ?_;refine iQ 1 (I (k:Nat)) 29 rfl rfl hH (fun W hW=>by clear hW;go_simp) ?_;refine az ?_;refine iQ 2 ( .pointer (some ⟨cb,co+k*68,none⟩)) 30 rfl rfl hH (fun W hW=>by clear hW;go_simp) ?_;refine az ?_;refine kY 3 _ 31 rfl rfl hH (yieldsIf_load_mid (by rfl) _ _ rfl cb (co+k*68) rfl z.cells _ (fun W hW j v hv=>hW.1 j v hv) Tryz.underlying26 rfl hzi) ?_;refine az ?_;refine iQ 4 ( .pointer (some ⟨w.heap.size+1,1,none⟩)) 32 rfl rfl hH (fun W hW=>by clear hW;go_simp) ?_;refine az ?_;refine kY 5 _ 33 rfl rfl hH (yieldsIf_load_mid (by rfl) _ _ rfl (w.heap.size+1) 1 rfl (ax r.key) _ (fun W hW j v hv=>hW.2 j v hv) Tryz.underlying24 rfl hki) ?_;refine az ?_;clear hH;refine aY 6 (fun K hK=>?_);go_simp;go_at_call 8;refine (iM.out wr.drew (HB.out.drew)).mono ?_;rintro e w8 ⟨rfl,hb8⟩;have DF:Below wr.heap.size wr w8:=ah (Below.refl _ wr).drew hb8;have Rk:=ae (ah HB.out DF);refine hK.out _ _ (oD.out _ DF) (fun hH=>?_);clear hK K hb8 DF;refine az ?_;refine iQ 7 ( .bool false) 35 rfl rfl hH (fun W hW=>by clear hW;go_simp) ?_;refine az ?_;clear hH;refine wpAnyH_done (by kernel_rfl) ?_ _;clear hzi hki oD iM;go_wp2_with fail;go_roundw
    case rel=>exact ⟨k+1,hlt,by go_num,Rk.out⟩
    case measure=>simp [intOf];have:=hlt;omega
   ·have hkn:k=n:=by omega
    have hlt':¬(k:Int)<(n:Int):=by omega
    have iM:Hid (Calls Tryz.prog 8 #[.agg (ai x.t (.slice x.A x.zs.length x.c)), .agg (ax r.key).toArray, .string name] wr (Gives (.bool true) wr)):=ae (HAG.out wr x name (ah zS.out HB.out) (HX.out wr (ah zS.out HB.out)) HSQ.out.1 fun u hu=>(HSQ.out.2 u hu).len);have HTR:=ae (Rt.out wr HB.out);have HKR:=ae (HKY.out wr HB.out);clear hlt hkn;go_wp2_with (first
     |((with_reducible refine eF 26 ?_);go_must (refine aJ rfl _ _ rfl w.heap.size rfl (ai x.t (.slice x.A x.zs.length x.c)) HTR.out _ Tryz.underlying26 rfl (dU.out _) ?_))
     |((with_reducible refine eF 24 ?_);go_must (refine dn rfl _ _ rfl (w.heap.size+1) 1 rfl (ax r.key) HKR.out _ Tryz.underlying24 rfl HKI.out ?_)))
    refine iM.out.mono ?_;rintro e w9 ⟨rfl,DF⟩;have HB9:=ae (ah (ah zS.out HB.out) DF);clear DF;go_wp2_with fail;go_ret;exact ⟨rfl,HB9.out⟩
set_option maxRecDepth 100000
section
variable {H:Type} {enc:TypeId×Value->H} {W:World} {fuel:Nat} {cs:List Value} {x:DataW H×List MemPlace}
theorem Cc (h:DataW.trod enc Tryz.prog W 0 (fun _=>true) true fuel 5 cs=some x):∃b:UInt8,cs= [Extern.Stop.cell b]:=by
 obtain ⟨n,rfl,_,hw⟩:=DataW.trod_int Tryz.underlying5 h;have hb:=bounds_u8 hw;exact ⟨byteOf n,by rw [fF,Int.emod_eq_of_lt hb.1 (by omega)]⟩
theorem X8 {α:Type} (f:α->Value) (l:List Value) (h:∀(i:Nat) (v:Value),l[i]? =some v->∃a,v=f a):∃us:List α,us.length=l.length/\l=us.map f:=by
 induction l with
 |nil=>exact ⟨[],rfl,rfl⟩
 |cons v l ih=>
  obtain ⟨a,rfl⟩:=h 0 v rfl;obtain ⟨us,h1,h2⟩:=ih (fun i v hv=>h (i+1) v (by simpa using hv));exact ⟨a::us,by rw [List.length_cons,List.length_cons,h1],by rw [List.map_cons,<-h2]⟩
theorem Ce {t:TypeId} {n:Nat} (ht:Tryz.prog.underlying t=some (.array n 5)) (hl:Tryz.prog.cellsOf t=n) (h:DataW.trod enc Tryz.prog W 0 (fun _=>true) true fuel t cs=some x):∃bs:List UInt8,bs.length=n/\cs=bs.map Extern.Stop.cell:=by
 obtain ⟨xs,m,_,_,hlen,hxl,hi⟩:=DataW.trod_array ht h;have h1:Tryz.prog.cellsOf 5=1:=by kernel_rfl
 rw [hl] at hlen;obtain ⟨bs,hb,e⟩:=X8 Extern.Stop.cell cs (fun i v hv=>by
  have hil:=(gQ.1 hv).1;have h2:=hi i (by omega);rw [h1,Nat.mul_one,bK (by omega)] at h2;obtain ⟨b,hb⟩:=Cc h2;refine ⟨b,?_⟩;have h3:((cs.drop i).take 1)[0]? =some v:=by rw [List.getElem?_take_of_lt (by omega),List.getElem?_drop,Nat.add_zero];exact hv
  rw [hb] at h3;injection h3 with h3;exact h3.symm)
 exact ⟨bs,by omega,e⟩
theorem nO {α:Type} [Inhabited α] (s:Nat) (f:α->List Value) (G:α->Prop) {t e:TypeId} (ht:Tryz.prog.underlying t=some (.slice e)) (hs:Tryz.prog.cellsOf e=s) (h0:0<s) (hop:∀n cs' y,DataW.trod enc Tryz.prog W 0 (fun _=>true) true n e cs'=some y->∃v,cs'=f v/\G v) (h:DataW.trod enc Tryz.prog W 0 (fun _=>true) true fuel t cs=some x):
  ∃(A:Option Addr) (len cap:Nat) (vs:List α),cs= [.slice A len cap]/\vs.length=len/\len<=cap/\cap<=9223372036854775807/\aA W W.heap.size A (vs.flatMap f)/\∀v∈vs,G v:=by
 rcases Go.Deep.open_slice ht h with ⟨rfl,_⟩|⟨a,len,cap,m,n,D,Pl,rfl,_,hl,hm,hmm,_,hi⟩
 ·exact ⟨none,0,0,[],rfl,rfl,Nat.le_refl _,Nat.zero_le _, .inl rfl,fun _ h=>nomatch h⟩
 ·have hml:m=cap:=by simpa using hmm
  obtain ⟨V,hV⟩:=Go.Deep.choose_lt (α:=α) (p:=fun i v=>G v/\(f v).length=s/\∀j,j<s->W.cell? ((a.add (i*s)).add j)=(f v)[j]?) (n:=len) (fun i hi'=>by
   obtain ⟨cs',h1,h2⟩:=hi i (by omega);obtain ⟨v,rfl,hg⟩:=hop _ _ _ h2;obtain ⟨_,hlen,hc⟩:=World.cells?_some h1;rw [hs] at hlen hc;exact ⟨v,hg,hlen,hc⟩)
  have hall:∀v∈(List.range len).map V,(f v).length=s:=fun v hv=>by
   obtain ⟨i,hi2,rfl⟩:=List.mem_map.1 hv;exact (hV i (List.mem_range.1 hi2)).2.1
  refine ⟨some a,len,cap,(List.range len).map V,rfl,by simp,hl,by unfold maxLen at hm;omega,?_,fun v hv=>?_⟩
  ·by_cases h00:len=0
   ·subst h00;exact .inl rfl
   ·obtain ⟨b,o,sp⟩:=a;obtain ⟨u0,hc0⟩:∃u,W.cell? (((⟨b,o,sp⟩:Addr).add (0*s)).add 0)=some u:=⟨_,((hV 0 (by omega)).2.2 0 h0).trans (bK (by rw [(hV 0 (by omega)).2.1];exact h0))⟩;have hspot:sp=none:=by simpa [Addr.add] using World.cell?_spot hc0
    subst hspot;rw [Addr.add_mid,Addr.add_mid] at hc0;have hb:b<W.heap.size:=by
     apply Classical.byContradiction;intro hn;have h2:W.heap[b]? =none:=Array.getElem?_eq_none (by omega);simp [World.cell?,h2] at hc0
    refine .inr ⟨b,o,rfl,hb,fun j u hu=>?_⟩;have hjl:=(gQ.1 hu).1;rw [bZ f _ hall,List.length_map,List.length_range] at hjl;have hk:j / s<len:=Nat.div_lt_of_lt_mul (by rw [Nat.mul_comm];exact hjl);have hr:j%s<s:=Nat.mod_lt _ h0;have hjj:j / s*s+j%s=j:=by rw [Nat.mul_comm];exact Nat.div_add_mod j s
    have hg:=flat_get f _ hall (j / s) (j%s) (V (j / s)) (by rw [List.getElem?_map,List.getElem?_range hk];rfl) hr;rw [hjj] at hg;have hc:=(hV (j / s) hk).2.2 (j%s) hr;rw [Addr.add_mid,Addr.add_mid,Nat.add_assoc,hjj] at hc;rw [hc,<-hg];exact hu
  ·obtain ⟨i,hi2,rfl⟩:=List.mem_map.1 hv;exact (hV i (List.mem_range.1 hi2)).1
theorem Jk (h:DataW.trod enc Tryz.prog W 0 (fun _=>true) true fuel 55 cs=some x):∃(A:Option Addr) (cap:Nat) (bs:List UInt8),cs= [.slice A bs.length cap]/\bs.length<=9223372036854775807/\aA W W.heap.size A (bs.map Extern.Stop.cell):=by
 obtain ⟨A,len,cap,vs,rfl,rfl,h1,h2,h3,_⟩:=nO (α:=UInt8) 1 (fun b=> [Extern.Stop.cell b]) (fun _=>True) Tryz.underlying55 (by kernel_rfl) (by omega) (fun n cs' y h=>by
  obtain ⟨b,e⟩:=Cc h;exact ⟨b,e,trivial⟩) h
 exact ⟨A,cap,vs,rfl,by omega,by rw [List.map_eq_flatMap];exact h3⟩
instance:Inhabited DX:=⟨⟨⟨0,[],[],0,0,0,0,0,0,0,0,0,0,false⟩,none,none,0,0⟩⟩
instance:Inhabited IE:=⟨⟨none,0,[],0⟩⟩
instance:Inhabited lK:=⟨⟨0,[],none,0,[]⟩⟩
theorem op_rw (h:DataW.trod enc Tryz.prog W 0 (fun _=>true) true fuel 85 cs=some x):∃v:DX,cs=v.cells/\FX W W.heap.size v:=by
 obtain ⟨xs,n,_,_,hlen,hxl,hf⟩:=DataW.trod_struct Tryz.underlying85 h;have k14:Tryz.prog.cellsOf 85=14:=by kernel_rfl
 have k1:Tryz.prog.cellsOf 5=1:=by kernel_rfl
 have kb:Tryz.prog.cellsOf 4=1:=by kernel_rfl
 have ks:Tryz.prog.cellsOf 55=1:=by kernel_rfl
 have k8:Tryz.prog.cellsOf 83=8:=by kernel_rfl
 have k4:Tryz.prog.cellsOf 82=4:=by kernel_rfl
 rw [k14] at hlen
 match cs,hlen,xs,hxl with
 | [c0,c1,c2,c3,c4,c5,c6,c7,c8,c9,c10,c11,c12,c13],_,[y0,y1,y2,y3,y4,y5,y6],_=>
  have g0:DataW.trod enc Tryz.prog W 0 (fun _=>true) true n 5 [c0]=some y0:=by simpa [k1] using hf 0 _ rfl
  have g1:DataW.trod enc Tryz.prog W 0 (fun _=>true) true n 55 [c1]=some y1:=by simpa [ks] using hf 1 _ rfl
  have g2:DataW.trod enc Tryz.prog W 0 (fun _=>true) true n 55 [c2]=some y2:=by simpa [ks] using hf 2 _ rfl
  have g3:DataW.trod enc Tryz.prog W 0 (fun _=>true) true n 5 [c3]=some y3:=by simpa [k1] using hf 3 _ rfl
  have g4:DataW.trod enc Tryz.prog W 0 (fun _=>true) true n 83 [c4,c5,c6,c7,c8,c9,c10,c11]=some y4:=by simpa [k8] using hf 4 _ rfl
  have g5:DataW.trod enc Tryz.prog W 0 (fun _=>true) true n 5 [c12]=some y5:=by simpa [k1] using hf 5 _ rfl
  have g6:DataW.trod enc Tryz.prog W 0 (fun _=>true) true n 4 [c13]=some y6:=by simpa [kb] using hf 6 _ rfl
  obtain ⟨b0,e0⟩:=Cc g0;obtain ⟨G,gc,gs,e1,hg1,hg2⟩:=Jk g1;obtain ⟨O,oc,os,e2,ho1,ho2⟩:=Jk g2;obtain ⟨b3,e3⟩:=Cc g3;obtain ⟨zs,m,_,_,_,hzl,hz⟩:=DataW.trod_array Tryz.underlying83 g4;have z0:=hz 0 (by omega);have z1:=hz 1 (by omega);rw [k4,bK (by omega)] at z0 z1;obtain ⟨a,ha1,ha⟩:=Ce Tryz.underlying82 k4 z0;obtain ⟨a',ha1',ha'⟩:=Ce Tryz.underlying82 k4 z1;obtain ⟨b5,e5⟩:=Cc g5;obtain ⟨b6,e6,_⟩:=DataW.trod_bool Tryz.underlying4 g6
  match a,ha1,a',ha1' with
  | [a0,a1,a2,a3],_,[a4,a5,a6,a7],_=>
   simp only [Nat.zero_mul,List.drop_zero,List.take_succ_cons,List.take_zero,List.map_cons,List.map_nil,List.cons.injEq,and_true] at ha;simp only [Nat.one_mul,List.drop_succ_cons,List.drop_zero,List.take_succ_cons,List.take_zero,List.map_cons,List.map_nil,List.cons.injEq,and_true] at ha';simp only [List.cons.injEq,and_true] at e0 e1 e2 e3 e5 e6;obtain ⟨h4,h5,h6,h7⟩:=ha;obtain ⟨h8,h9,h10,h11⟩:=ha';refine ⟨⟨⟨b0,gs,os,b3,a0,a1,a2,a3,a4,a5,a6,a7,b5,b6⟩,G,O,gc,oc⟩,?_,⟨hg1,ho1,hg2,ho2⟩⟩;rw [e0,e1,e2,e3,h4,h5,h6,h7,h8,h9,h10,h11,e5,e6];rfl
theorem op_it (h:DataW.trod enc Tryz.prog W 0 (fun _=>true) true fuel 48 cs=some x):∃v:IE,cs=v.cells.toList/\DW W W.heap.size v:=by
 obtain ⟨xs,n,_,_,hlen,hxl,hf⟩:=DataW.trod_struct Tryz.underlying48 h;have k2:Tryz.prog.cellsOf 48=2:=by kernel_rfl
 have k1:Tryz.prog.cellsOf 5=1:=by kernel_rfl
 have ks:Tryz.prog.cellsOf 46=1:=by kernel_rfl
 rw [k2] at hlen
 match cs,hlen,xs,hxl with
 | [c0,c1],_,[y0,y1],_=>
  have g0:DataW.trod enc Tryz.prog W 0 (fun _=>true) true n 46 [c0]=some y0:=by simpa [ks] using hf 0 _ rfl
  have g1:DataW.trod enc Tryz.prog W 0 (fun _=>true) true n 5 [c1]=some y1:=by simpa [k1] using hf 1 _ rfl
  obtain ⟨A,len,cap,vs,e0,rfl,h1,h2,h3,h4⟩:=nO 14 DX.cells (FX W W.heap.size) Tryz.underlying46 (by kernel_rfl) (by omega) (fun n cs' y h=>op_rw h) g0;obtain ⟨b1,e1⟩:=Cc g1;simp only [List.cons.injEq,and_true] at e0 e1;refine ⟨⟨A,cap,vs,b1⟩,?_,⟨by show vs.length<=_;omega,h3,h4⟩⟩;rw [e0,e1];rfl
theorem op_raw (h:DataW.trod enc Tryz.prog W 0 (fun _=>true) true fuel 29 cs=some x):∃v:lK,cs=v.cells/\vS W W.heap.size v:=by
 obtain ⟨xs,n,_,_,hlen,hxl,hf⟩:=DataW.trod_struct Tryz.underlying29 h;have k34:Tryz.prog.cellsOf 29=34:=by kernel_rfl
 have k1:Tryz.prog.cellsOf 5=1:=by kernel_rfl
 have k32:Tryz.prog.cellsOf 24=32:=by kernel_rfl
 have ks:Tryz.prog.cellsOf 27=1:=by kernel_rfl
 rw [k34] at hlen
 match xs,hxl with
 | [y0,y1,y2],_=>
  have g0:DataW.trod enc Tryz.prog W 0 (fun _=>true) true n 5 (cs.take 1)=some y0:=by simpa [k1] using hf 0 _ rfl
  have g1:DataW.trod enc Tryz.prog W 0 (fun _=>true) true n 24 ((cs.drop 1).take 32)=some y1:=by simpa [k32] using hf 1 _ rfl
  have g2:DataW.trod enc Tryz.prog W 0 (fun _=>true) true n 27 ((cs.drop 33).take 1)=some y2:=by simpa [ks] using hf 2 _ rfl
  obtain ⟨b0,e0⟩:=Cc g0;obtain ⟨key,hk,e1⟩:=Ce Tryz.underlying24 k32 g1;obtain ⟨A,len,cap,vs,e2,rfl,h1,h2,h3,h4⟩:=nO 2 (fun v:IE=>v.cells.toList) (DW W W.heap.size) Tryz.underlying27 (by kernel_rfl) (by omega) (fun n cs' y h=>op_it h) g2;refine ⟨⟨b0,key,A,cap,vs⟩,?_,⟨hk,by show vs.length<=_;omega,h3,h4⟩⟩;have d1:cs=cs.take 1++cs.drop 1:=(List.take_append_drop 1 cs).symm;have d2:cs.drop 1=(cs.drop 1).take 32++cs.drop 33:=by
   have:=(List.take_append_drop 32 (cs.drop 1)).symm;rw [List.drop_drop] at this;exact this
  have d3:cs.drop 33=(cs.drop 33).take 1:=(List.take_of_length_le (by rw [List.length_drop];omega)).symm;rw [d1,d2,d3,e0,e1,e2];rfl
end
end Go.Proofs.YtbaehbbonkljpaaGreatDoor
namespace Go.Proofs.YtbaehbbonkljpaaGreatDoor
open Go Go.RowKit
set_option maxRecDepth 100000
section
variable {H:Type} {enc:TypeId×Value->H} {W:World} {fuel:Nat} {cs:List Value} {x:DataW H×List MemPlace}
theorem jJ (h:DataW.trod enc Tryz.prog W 0 (fun _=>true) true fuel 3 cs=some x):∃z:Int,cs= [I z]:=by
 obtain ⟨n,e,_,_⟩:=DataW.trod_int Tryz.underlying3 h;exact ⟨n,e⟩
instance:Inhabited Lr:=⟨⟨0,0,false⟩⟩
instance:Inhabited Tr:=⟨⟨0,0⟩⟩
instance:Inhabited Yr:=⟨⟨0,0,0,0,0⟩⟩
instance:Inhabited dw:=⟨⟨⟨⟨#[]⟩,⟨⟨0,[],0,[]⟩,0,[],0,[]⟩⟩,⟨none,0,none,0,none,0,none,0⟩⟩⟩
theorem Yg (h:DataW.trod enc Tryz.prog W 0 (fun _=>true) true fuel 62 cs=some x):∃(A:Option Addr) (cap:Nat) (vs:List Int),cs= [.slice A vs.length cap]/\aA W W.heap.size A (vs.flatMap (fun z:Int=> [I z])):=by
 obtain ⟨A,len,cap,vs,rfl,rfl,_,_,h3,_⟩:=nO (α:=Int) 1 (fun z:Int=> [I z]) (fun _=>True) Tryz.underlying62 (by kernel_rfl) (by omega) (fun n cs' y h=>by
  obtain ⟨v,e⟩:=jJ h;exact ⟨v,e,trivial⟩) h
 exact ⟨A,cap,vs,rfl,h3⟩
theorem op_lr (h:DataW.trod enc Tryz.prog W 0 (fun _=>true) true fuel 118 cs=some x):∃v:Lr,cs=v.cells:=by
 obtain ⟨xs,n,_,_,hlen,hxl,hf⟩:=DataW.trod_struct Tryz.underlying118 h;have kk:Tryz.prog.cellsOf 118=3:=by kernel_rfl
 have Ih:Tryz.prog.cellsOf 3=1:=by kernel_rfl
 have k_1:Tryz.prog.cellsOf 4=1:=by kernel_rfl
 rw [kk] at hlen
 match cs,hlen,xs,hxl with
 | [c0,c1,c2],_,[y0,y1,y2],_=>
  have g0:DataW.trod enc Tryz.prog W 0 (fun _=>true) true n 3 [c0]=some y0:=by simpa [Ih] using hf 0 _ rfl
  have g1:DataW.trod enc Tryz.prog W 0 (fun _=>true) true n 3 [c1]=some y1:=by simpa [Ih] using hf 1 _ rfl
  have g2:DataW.trod enc Tryz.prog W 0 (fun _=>true) true n 4 [c2]=some y2:=by simpa [k_1] using hf 2 _ rfl
  obtain ⟨z0,e0⟩:=jJ g0;obtain ⟨z1,e1⟩:=jJ g1;obtain ⟨b2,e2,_⟩:=DataW.trod_bool Tryz.underlying4 g2;simp only [List.cons.injEq,and_true] at e0 e1 e2;exact ⟨⟨z0,z1,b2⟩,by rw [e0,e1,e2];rfl⟩
theorem op_lrs (h:DataW.trod enc Tryz.prog W 0 (fun _=>true) true fuel 63 cs=some x):∃(A:Option Addr) (cap:Nat) (vs:List Lr),cs= [.slice A vs.length cap]/\aA W W.heap.size A (vs.flatMap Lr.cells):=by
 obtain ⟨A,len,cap,vs,rfl,rfl,_,_,h3,_⟩:=nO (α:=Lr) 3 Lr.cells (fun _=>True) Tryz.underlying63 (by kernel_rfl) (by omega) (fun n cs' y h=>by
  obtain ⟨v,e⟩:=op_lr h;exact ⟨v,e,trivial⟩) h
 exact ⟨A,cap,vs,rfl,h3⟩
theorem op_tr (h:DataW.trod enc Tryz.prog W 0 (fun _=>true) true fuel 108 cs=some x):∃v:Tr,cs=v.cells:=by
 obtain ⟨xs,n,_,_,hlen,hxl,hf⟩:=DataW.trod_struct Tryz.underlying108 h;have kk:Tryz.prog.cellsOf 108=2:=by kernel_rfl
 have Ih:Tryz.prog.cellsOf 3=1:=by kernel_rfl
 rw [kk] at hlen
 match cs,hlen,xs,hxl with
 | [c0,c1],_,[y0,y1],_=>
  have g0:DataW.trod enc Tryz.prog W 0 (fun _=>true) true n 3 [c0]=some y0:=by simpa [Ih] using hf 0 _ rfl
  have g1:DataW.trod enc Tryz.prog W 0 (fun _=>true) true n 3 [c1]=some y1:=by simpa [Ih] using hf 1 _ rfl
  obtain ⟨z0,e0⟩:=jJ g0;obtain ⟨z1,e1⟩:=jJ g1;simp only [List.cons.injEq,and_true] at e0 e1;exact ⟨⟨z0,z1⟩,by rw [e0,e1];rfl⟩
theorem op_trs (h:DataW.trod enc Tryz.prog W 0 (fun _=>true) true fuel 66 cs=some x):∃(A:Option Addr) (cap:Nat) (vs:List Tr),cs= [.slice A vs.length cap]/\aA W W.heap.size A (vs.flatMap Tr.cells):=by
 obtain ⟨A,len,cap,vs,rfl,rfl,_,_,h3,_⟩:=nO (α:=Tr) 2 Tr.cells (fun _=>True) Tryz.underlying66 (by kernel_rfl) (by omega) (fun n cs' y h=>by
  obtain ⟨v,e⟩:=op_tr h;exact ⟨v,e,trivial⟩) h
 exact ⟨A,cap,vs,rfl,h3⟩
theorem op_yr (h:DataW.trod enc Tryz.prog W 0 (fun _=>true) true fuel 110 cs=some x):∃v:Yr,cs=v.cells:=by
 obtain ⟨xs,n,_,_,hlen,hxl,hf⟩:=DataW.trod_struct Tryz.underlying110 h;have kk:Tryz.prog.cellsOf 110=5:=by kernel_rfl
 have Ih:Tryz.prog.cellsOf 3=1:=by kernel_rfl
 rw [kk] at hlen
 match cs,hlen,xs,hxl with
 | [c0,c1,c2,c3,c4],_,[y0,y1,y2,y3,y4],_=>
  have g0:DataW.trod enc Tryz.prog W 0 (fun _=>true) true n 3 [c0]=some y0:=by simpa [Ih] using hf 0 _ rfl
  have g1:DataW.trod enc Tryz.prog W 0 (fun _=>true) true n 3 [c1]=some y1:=by simpa [Ih] using hf 1 _ rfl
  have g2:DataW.trod enc Tryz.prog W 0 (fun _=>true) true n 3 [c2]=some y2:=by simpa [Ih] using hf 2 _ rfl
  have g3:DataW.trod enc Tryz.prog W 0 (fun _=>true) true n 3 [c3]=some y3:=by simpa [Ih] using hf 3 _ rfl
  have g4:DataW.trod enc Tryz.prog W 0 (fun _=>true) true n 3 [c4]=some y4:=by simpa [Ih] using hf 4 _ rfl
  obtain ⟨z0,e0⟩:=jJ g0;obtain ⟨z1,e1⟩:=jJ g1;obtain ⟨z2,e2⟩:=jJ g2;obtain ⟨z3,e3⟩:=jJ g3;obtain ⟨z4,e4⟩:=jJ g4;simp only [List.cons.injEq,and_true] at e0 e1 e2 e3 e4;exact ⟨⟨z0,z1,z2,z3,z4⟩,by rw [e0,e1,e2,e3,e4];rfl⟩
theorem op_yrs (h:DataW.trod enc Tryz.prog W 0 (fun _=>true) true fuel 67 cs=some x):∃(A:Option Addr) (cap:Nat) (vs:List Yr),cs= [.slice A vs.length cap]/\aA W W.heap.size A (vs.flatMap Yr.cells):=by
 obtain ⟨A,len,cap,vs,rfl,rfl,_,_,h3,_⟩:=nO (α:=Yr) 5 Yr.cells (fun _=>True) Tryz.underlying67 (by kernel_rfl) (by omega) (fun n cs' y h=>by
  obtain ⟨v,e⟩:=op_yr h;exact ⟨v,e,trivial⟩) h
 exact ⟨A,cap,vs,rfl,h3⟩
theorem op_cal (h:DataW.trod enc Tryz.prog W 0 (fun _=>true) true fuel 65 cs=some x):∃(c:Cal) (A:Option Addr) (a:Nat) (B:Option Addr) (b:Nat),cs= [I c.bn, .slice A c.au.length a,I c.dA, .slice B c.rules.length b]/\aA W W.heap.size A (c.au.map I)/\aA W W.heap.size B (c.rules.flatMap Lr.cells):=by
 obtain ⟨xs,n,_,_,hlen,hxl,hf⟩:=DataW.trod_struct Tryz.underlying65 h;have kk:Tryz.prog.cellsOf 65=4:=by kernel_rfl
 have Ih:Tryz.prog.cellsOf 3=1:=by kernel_rfl
 have k_1:Tryz.prog.cellsOf 62=1:=by kernel_rfl
 have k_2:Tryz.prog.cellsOf 63=1:=by kernel_rfl
 rw [kk] at hlen
 match cs,hlen,xs,hxl with
 | [c0,c1,c2,c3],_,[y0,y1,y2,y3],_=>
  have g0:DataW.trod enc Tryz.prog W 0 (fun _=>true) true n 3 [c0]=some y0:=by simpa [Ih] using hf 0 _ rfl
  have g1:DataW.trod enc Tryz.prog W 0 (fun _=>true) true n 62 [c1]=some y1:=by simpa [k_1] using hf 1 _ rfl
  have g2:DataW.trod enc Tryz.prog W 0 (fun _=>true) true n 3 [c2]=some y2:=by simpa [Ih] using hf 2 _ rfl
  have g3:DataW.trod enc Tryz.prog W 0 (fun _=>true) true n 63 [c3]=some y3:=by simpa [k_2] using hf 3 _ rfl
  obtain ⟨z0,e0⟩:=jJ g0;obtain ⟨A1,cap1,vs1,e1,hc1⟩:=Yg g1;obtain ⟨z2,e2⟩:=jJ g2;obtain ⟨A3,cap3,vs3,e3,hc3⟩:=op_lrs g3;simp only [List.cons.injEq,and_true] at e0 e1 e2 e3;exact ⟨⟨z0,vs1,z2,vs3⟩,A1,cap1,A3,cap3,by rw [e0,e1,e2,e3],by rw [List.map_eq_flatMap];exact hc1,hc3⟩
theorem Yh (h:DataW.trod enc Tryz.prog W 0 (fun _=>true) true fuel 69 cs=some x):∃(z:Zn) (s:Zs),cs=(ay z s).toList/\iP W W.heap.size s z:=by
 obtain ⟨xs,n,_,_,hlen,hxl,hf⟩:=DataW.trod_struct Tryz.underlying69 h;have kk:Tryz.prog.cellsOf 69=8:=by kernel_rfl
 have Ih:Tryz.prog.cellsOf 65=4:=by kernel_rfl
 have k_1:Tryz.prog.cellsOf 3=1:=by kernel_rfl
 have k_2:Tryz.prog.cellsOf 66=1:=by kernel_rfl
 have k_3:Tryz.prog.cellsOf 67=1:=by kernel_rfl
 rw [kk] at hlen
 match cs,hlen,xs,hxl with
 | [c0,c1,c2,c3,c4,c5,c6,c7],_,[y0,y1,y2,y3,y4],_=>
  have g0:DataW.trod enc Tryz.prog W 0 (fun _=>true) true n 65 [c0,c1,c2,c3]=some y0:=by simpa [Ih] using hf 0 _ rfl
  have g1:DataW.trod enc Tryz.prog W 0 (fun _=>true) true n 3 [c4]=some y1:=by simpa [k_1] using hf 1 _ rfl
  have g2:DataW.trod enc Tryz.prog W 0 (fun _=>true) true n 66 [c5]=some y2:=by simpa [k_2] using hf 2 _ rfl
  have g3:DataW.trod enc Tryz.prog W 0 (fun _=>true) true n 3 [c6]=some y3:=by simpa [k_1] using hf 3 _ rfl
  have g4:DataW.trod enc Tryz.prog W 0 (fun _=>true) true n 67 [c7]=some y4:=by simpa [k_3] using hf 4 _ rfl
  obtain ⟨cl,CA,ca,CB,cb,e0,hca,hcb⟩:=op_cal g0;obtain ⟨z1,e1⟩:=jJ g1;obtain ⟨A2,cap2,vs2,e2,hc2⟩:=op_trs g2;obtain ⟨z3,e3⟩:=jJ g3;obtain ⟨A4,cap4,vs4,e4,hc4⟩:=op_yrs g4;simp only [List.cons.injEq,and_true] at e0 e1 e2 e3 e4;obtain ⟨f0,f1,f2,f3⟩:=e0;exact ⟨⟨cl,z1,vs2,z3,vs4⟩,⟨CA,ca,CB,cb,A2,cap2,A4,cap4⟩,by rw [f0,f1,f2,f3,e1,e2,e3,e4];rfl,⟨hca,hcb,hc2,hc4⟩⟩
theorem op_str (h:DataW.trod enc Tryz.prog W 0 (fun _=>true) true fuel 9 cs=some x):∃s:ByteArray,cs= [.string s]:=by
 obtain ⟨s,e,_⟩:=DataW.trod_string Tryz.underlying9 h;exact ⟨s,e⟩
theorem op_ze (h:DataW.trod enc Tryz.prog W 0 (fun _=>true) true fuel 76 cs=some x):∃v:dw,cs=v.cells.toList/\iP W W.heap.size v.s v.e.z:=by
 obtain ⟨xs,n,_,_,hlen,hxl,hf⟩:=DataW.trod_struct Tryz.underlying76 h;have kk:Tryz.prog.cellsOf 76=9:=by kernel_rfl
 have Ih:Tryz.prog.cellsOf 9=1:=by kernel_rfl
 have k_1:Tryz.prog.cellsOf 69=8:=by kernel_rfl
 rw [kk] at hlen
 match cs,hlen,xs,hxl with
 | [c0,c1,c2,c3,c4,c5,c6,c7,c8],_,[y0,y1],_=>
  have g0:DataW.trod enc Tryz.prog W 0 (fun _=>true) true n 9 [c0]=some y0:=by simpa [Ih] using hf 0 _ rfl
  have g1:DataW.trod enc Tryz.prog W 0 (fun _=>true) true n 69 [c1,c2,c3,c4,c5,c6,c7,c8]=some y1:=by simpa [k_1] using hf 1 _ rfl
  obtain ⟨nm,e0⟩:=op_str g0;obtain ⟨z,s,e1,hz⟩:=Yh g1;simp only [List.cons.injEq,and_true] at e0;refine ⟨⟨⟨nm,z⟩,s⟩,?_,hz⟩;rw [e0,e1];rfl
theorem op_tab (h:DataW.trod enc Tryz.prog W 0 (fun _=>true) true fuel 26 cs=some x):∃v:dF,cs=(ai v.t (.slice v.A v.zs.length v.c)).toList/\fV W W.heap.size v:=by
 obtain ⟨xs,n,_,_,hlen,hxl,hf⟩:=DataW.trod_struct Tryz.underlying26 h;have k68:Tryz.prog.cellsOf 26=68:=by kernel_rfl
 have k1:Tryz.prog.cellsOf 3=1:=by kernel_rfl
 have k32:Tryz.prog.cellsOf 24=32:=by kernel_rfl
 have ks:Tryz.prog.cellsOf 22=1:=by kernel_rfl
 rw [k68] at hlen
 match xs,hxl with
 | [y0,y1,y2,y3,y4,y5],_=>
  have g0:DataW.trod enc Tryz.prog W 0 (fun _=>true) true n 3 (cs.take 1)=some y0:=by simpa [k1] using hf 0 _ rfl
  have g1:DataW.trod enc Tryz.prog W 0 (fun _=>true) true n 3 ((cs.drop 1).take 1)=some y1:=by simpa [k1] using hf 1 _ rfl
  have g2:DataW.trod enc Tryz.prog W 0 (fun _=>true) true n 3 ((cs.drop 2).take 1)=some y2:=by simpa [k1] using hf 2 _ rfl
  have g3:DataW.trod enc Tryz.prog W 0 (fun _=>true) true n 22 ((cs.drop 3).take 1)=some y3:=by simpa [k1,ks] using hf 3 _ rfl
  have g4:DataW.trod enc Tryz.prog W 0 (fun _=>true) true n 24 ((cs.drop 4).take 32)=some y4:=by simpa [k1,ks,k32] using hf 4 _ rfl
  have g5:DataW.trod enc Tryz.prog W 0 (fun _=>true) true n 24 ((cs.drop 36).take 32)=some y5:=by simpa [k1,ks,k32] using hf 5 _ rfl
  obtain ⟨z0,e0⟩:=jJ g0;obtain ⟨z1,e1⟩:=jJ g1;obtain ⟨z2,e2⟩:=jJ g2;obtain ⟨A,len,cap,vs,e3,rfl,_,_,h3,h4⟩:=nO 9 (fun v:dw=>v.cells.toList) (fun v=>iP W W.heap.size v.s v.e.z) Tryz.underlying22 (by kernel_rfl) (by omega) (fun n cs' y h=>op_ze h) g3;obtain ⟨pv,hp,e4⟩:=Ce Tryz.underlying24 k32 g4;obtain ⟨mc,hm,e5⟩:=Ce Tryz.underlying24 k32 g5;refine ⟨⟨⟨z0,z1,z2,pv,mc,vs.map (·.e)⟩,A,cap,vs⟩,?_,⟨rfl,hp,hm,⟨h3,h4⟩⟩⟩;have d5:cs.drop 36=(cs.drop 36).take 32:=(List.take_of_length_le (by rw [List.length_drop];omega)).symm;have d4:cs.drop 4=(cs.drop 4).take 32++cs.drop 36:=by
   have h:=(List.take_append_drop 32 (cs.drop 4)).symm
   rwa [List.drop_drop] at h
  have d3:cs.drop 3=(cs.drop 3).take 1++cs.drop 4:=by
   have h:=(List.take_append_drop 1 (cs.drop 3)).symm
   rwa [List.drop_drop] at h
  have d2:cs.drop 2=(cs.drop 2).take 1++cs.drop 3:=by
   have h:=(List.take_append_drop 1 (cs.drop 2)).symm
   rwa [List.drop_drop] at h
  have d1:cs.drop 1=(cs.drop 1).take 1++cs.drop 2:=by
   have h:=(List.take_append_drop 1 (cs.drop 1)).symm
   rwa [List.drop_drop] at h
  have d0:cs=cs.take 1++cs.drop 1:=(List.take_append_drop 1 cs).symm;rw [d0,d1,d2,d3,d4,d5,e0,e1,e2,e3,e4,e5];simp [ai,jy,ax]
end
end Go.Proofs.YtbaehbbonkljpaaGreatDoor
