/- The texts TrT, We, Wd, Sa, Lh, in this order. -/
import Derived.Test.YtbaehbbonkljpaaGreatDoorS00
import Derived.Test.YtbaehbbonkljpaaGreatDoorS01
import Derived.Test.YtbaehbbonkljpaaGreatDoorS03
import Derived.Test.YtbaehbbonkljpaaGreatDoorS05
import Derived.Test.YtbaehbbonkljpaaGreatDoorS08
import Derived.Test.YtbaehbbonkljpaaGreatDoorS18
import Derived.Test.YtbaehbbonkljpaaGreatDoorS19
import Derived.Test.YtbaehbbonkljpaaGreatDoorS27
import Derived.Test.YtbaehbbonkljpaaGreatDoorS28
import Derived.Test.YtbaehbbonkljpaaGreatDoorS31
import Derived.Test.YtbaehbbonkljpaaGreatDoorS34
set_option maxRecDepth 10000
set_option maxHeartbeats 8000000
namespace Go.Proofs.YtbaehbbonkljpaaGreatDoor
open Go Go.RowKit
def Jq (cs:Array Value) (o:Nat):List Value->Array Value
 | []=>cs
 |v::r=>Jq (cs.setIfInBounds o v) (o+1) r
theorem Fe:∀(vs pre old:List Value),old.length=vs.length->Jq (pre++old).toArray pre.length vs=(pre++vs).toArray
 | [],pre,old,h=>by
  have:old= []:=List.eq_nil_of_length_eq_zero h;simp [Jq,this]
 |v::r,pre,old,h=>by
  obtain ⟨x,old',rfl⟩:∃x old',old=x::old':=by
   cases old with
   |nil=>simp at h
   |cons x o=>exact ⟨x,o,rfl⟩
  have h2:=Fe r (pre++ [v]) old' (by simpa using h);have e:(pre++x::old').toArray.setIfInBounds pre.length v=((pre++ [v])++old').toArray:=by simp
  unfold Jq;rw [e];simpa using h2
theorem vZ:∀(vs:List Value) (w:World) (b o:Nat) (cs:Array Value) (t:TypeId),w.heap[b]? =some (.cells cs t (0,0))->(w.setCells b o vs).heap[b]? =some (.cells (Jq cs o vs) t (0,0))
 | [],_,_,_,_,_,h=>h
 |v::r,w,b,o,_,t,h=>vZ r _ b (o+1) _ t (heap_setCell_same w b o _ _ v h)
theorem sK:∀(vs:List Value) (w:World) (b o k:Nat),k≠b->(w.setCells b o vs).heap[k]? =w.heap[k]?
 | [],_,_,_,_,_=>rfl
 |v::r,w,b,o,k,h=>(sK r _ b (o+1) k h).trans (heap_setCell_other w _ k v h)
theorem uA:∀(vs:List Value) (w:World) (b o:Nat),(w.setCells b o vs).heap.size=w.heap.size
 | [],_,_,_=>rfl
 |v::r,w,b,o=>(uA r _ b (o+1)).trans (by simp [World.setCell])
theorem sG {B b:Nat} {w0:World} (h:B<=b):∀(vs:List Value) (w:World) (o:Nat),Below B w0 w->Below B w0 (w.setCells b o vs)
 | [],_,_,hb=>hb
 |v::r,_,o,hb=>sG h r _ (o+1) (hb.setCell (p:=⟨b,o,none⟩) h v)
theorem U4 (t:Tb) (v:Value):jy t v=([I t.bG,I t.version,I t.aO,v]++ax t.prev)++ax t.bP:=by simp [jy]
theorem QO (t:Tb) (v:Value) (m:List UInt8) (hp:t.prev.length=32) (h1:t.bP.length=32) (h2:m.length=32):Jq (ai t v) 36 (ax m)=ai {t with bP:=m} v:=by
 have h:=Fe (ax m) ([I t.bG,I t.version,I t.aO,v]++ax t.prev) (ax t.bP) (by simp [ax,h1,h2]);have hl:([I t.bG,I t.version,I t.aO,v]++ax t.prev).length=36:=by simp [ax,hp]
 rw [hl] at h;unfold ai;rw [U4,U4];exact h
theorem gK.via {w w':World} {b B:Nat} {cs:Array Value} (h:gK w b cs) (hb:Below B w w') (hB:b<B):gK w' b cs:=
 ⟨dP h.1 hb.size,fun i=>(hb.cell (p:=⟨b,i,none⟩) hB).trans (h.2 i)⟩
theorem BN (m:List UInt8) (h:m.length=32):(Tryz.prog.info? 24).map (·.size)=some (cellsB m).size:=by rw [fG,h];kernel_rfl
theorem Yi {lo:Nat} {w:World} {g n c:Nat} {bs:List UInt8} (h:w.ownsRow lo 5 1 (.slice (some ⟨g,0,none⟩) n c) n (bs.map Extern.Stop.cell)):g<w.heap.size/\lo<=g:=by
 obtain ⟨_,⟨h1,_⟩|⟨g',cap,cur,hv,hg,hb,h1,h2,h3,h4⟩⟩:=h
 ·cases h1
 injection hv with hv _ hc;injection hv with hv;injection hv with hv;subst hv;exact ⟨(bV.1 hb).1,hg⟩
def ZV (w:World) (t:Tb) (bP:List UInt8) (n:Nat) (e:Ending) (w':World):Prop:=
 ∃A c ys,e= .returned (.tuple #[.agg (ai {t with bP:=bP} (.slice A n c)),I 0])/\tq w.heap.size w' A ys/\ys.map (·.e)=t.aF/\Below w.heap.size w w'
theorem seal_g (KR:List Int) (hK:KR.length=64) (w:World) (hG:gK w 0 (aj KR)) (hw0:0<w.heap.size) (key:List UInt8) (hk:key.length=32) (t:Tb) (A:Option Addr) (n c:Nat) (zs:List dw) (hp:t.prev.length=32) (hm:t.bP.length=32) (hv:mg t=0) (hL:(lJ t).length<=90000) (hzz:t.aF=zs.map (·.e)) (hn:zs.length=n) (hA:kz w w.heap.size A zs):
  Calls Tryz.prog 31 #[.agg (cellsB key), .agg (ai t (.slice A n c))] w (ZV w t (oh KR key (lJ t)) n):=by
 have HF:=ae (JZ hv hp hm);have HV:=ae hv;have HL:=ae hL;have dU:Hid (∀v,(Tryz.prog.info? 26).map (·.size)=some (ai t v).size):=ae fun v=>bD t v hp hm;have EE:Hid (∀u v,(ai t u).size=(ai t v).size):=ae fun u v=>by rw [bf _ _ hp hm,bf _ _ hp hm]
 have Xo:=ae hzz;have HN:=ae hn;have HK:=ae hK;have HKY:=ae hk;obtain ⟨W,hW⟩:∃W,((w.alloc (.cells (cellsB key) 24)).alloc (.cells (ai t (.slice A n c)) 26)).alloc (.cells (ai bu (.slice none 0 0)) 26)=W:=⟨_,rfl⟩;have hB:Below w.heap.size w W:=by rw [<-hW];exact (((Below.refl _ w).alloc (Nat.le_refl _) _).alloc (by simp) _).alloc (by simp;omega) _
 have hs:W.heap.size=w.heap.size+3:=by rw [<-hW];simp
 have hb0:W.heap[w.heap.size]? =some (.cells (cellsB key) 24 (0,0)):=by rw [<-hW];exact (Below.heap_alloc _ _ _ (by simp;omega)).trans (heap_alloc2_old w _ _)
 have hb1:W.heap[w.heap.size+1]? =some (.cells (ai t (.slice A n c)) 26 (0,0)):=by rw [<-hW];exact (Below.heap_alloc _ _ _ (by simp)).trans (heap_alloc2_new w _ _)
 have hb2:W.heap[w.heap.size+2]? =some (.cells (ai bu (.slice none 0 0)) 26 (0,0)):=by
  rw [<-hW];have:=heap_alloc_last ((w.alloc (.cells (cellsB key) 24)).alloc (.cells (ai t (.slice A n c)) 26)) (.cells (ai bu (.slice none 0 0)) 26);simpa using this
 have HB:=ae hB;have HS:=ae hs;have H0:=ae hb0;have H1:=ae hb1;have H2:=ae hb2;have HR1:=ae (Row.jH hb1);have HO:=ae (hA.grow hB);have HG:=ae (hG);clear hv hp hm hL hzz hn hA hK hk hb0 hb1 hb2 hB hs hG;obtain ⟨m,hm⟩:∃m,oh KR key (lJ t)=m:=⟨_,rfl⟩;have pg:m.length=32:=by rw [<-hm];exact nN _ _ _
 rw [hm];have qV:=ae hm;clear hm;go_enter Tryz.func31,Tryz.ntmps31;go_wp2_with (with_reducible refine dY 26 ?_;refine aJ rfl _ _ rfl (w.heap.size+1) rfl (ai t (.slice A n c)) (by rw [oN,hW];exact HR1.out) _ Tryz.underlying26 rfl (dU.out _) ?_);rw [oN,hW];clear hW;refine (pW t A n c zs W HF.out Xo.out HN.out HO.out HV.out).mono ?_;rintro e w2 ⟨⟨g2,c2,rfl,ho2⟩,hb2⟩;have hs0:=HS.out;have hl2:=hb2.size;have HB2:=ae (ah HB.out hb2);have H02:Hid (w2.heap[w.heap.size]? =some (.cells (cellsB key) 24 (0,0))):=ae ((hb2.block _ (by omega)).trans H0.out);have WE:Hid (w2.heap[w.heap.size+1]? =some (.cells (ai t (.slice A n c)) 26 (0,0))):=ae ((hb2.block _ (by omega)).trans H1.out);have H22:Hid (w2.heap[w.heap.size+2]? =some (.cells (ai bu (.slice none 0 0)) 26 (0,0))):=ae ((hb2.block _ (by omega)).trans H2.out);have HR2:=ae (Row.jH WE.out);have HOO2:=ae (HO.out.grow hb2);have RS:=ae ho2;clear ho2 hb2 HO HR1 H0 H1 H2 HB HS;have iM:Hid (Calls Tryz.prog 36 #[.agg (ai t (.slice A n c))] w2 (ClV w2 ⟨t,A,c,zs⟩)):=ae (by
  have h2:zs.length<=128:=by have:=HF.out.num;rw [Xo.out,List.length_map] at this;exact this
  have hn2:=HN.out;exact wJ ⟨t,A,c,zs⟩ n w2 hn2 (by omega) (fun y hy=>(HF.out.good _ (by rw [Xo.out];exact List.mem_map_of_mem hy)).len) ⟨Xo.out,HF.out.prev,HF.out.bP,HOO2.out⟩)
 go_wp2_with (with_reducible refine dY 26 ?_;refine aJ rfl _ _ rfl (w.heap.size+1) rfl (ai t (.slice A n c)) HR2.out _ Tryz.underlying26 rfl (dU.out _) ?_);refine (iM.out).mono ?_;rintro e w3 ⟨⟨t3,A3,c3,ys⟩,ht3,he3,rfl,hO3,hb3⟩;have ht4:t=t3:=ht3.symm;subst ht4;have he3:ys.map (·.e)=zs.map (·.e):=he3;have hz3:tq w2.heap.size w3 A3 ys:=hO3.aF;have hy3:ys.length=n:=by have:=congrArg List.length he3;simpa [HN.out] using this
 dsimp only;rw [hy3];have HE3:Hid (ys.map (·.e)=t.aF):=ae (he3.trans Xo.out.symm);have hl3:=hb3.size;obtain ⟨W4,RG⟩:∃W4,w3.setRow (w.heap.size+1) (ai t (.slice A3 n c3))=W4:=⟨_,rfl⟩;have h13:w3.heap[w.heap.size+1]? =some (.cells (ai t (.slice A n c)) 26 (0,0)):=(hb3.block _ (by omega)).trans WE.out;have H13:=ae h13;have H14:Hid (W4.heap[w.heap.size+1]? =some (.cells (ai t (.slice A3 n c3)) 26 (0,0))):=ae (by rw [<-RG];exact setRow_heap _ _ _ _ _ _ h13);have hk4:∀k,k≠w.heap.size+1->W4.heap[k]? =w3.heap[k]? :=fun k hk=>by rw [<-RG];exact setRow_other _ _ k _ hk
 have hL4:W4.heap.size=w3.heap.size:=by rw [<-RG];simp [World.setRow]
 have hB4:Below w.heap.size w W4:=by rw [<-RG];exact aB (ah HB2.out hb3) (Nat.le_succ _) _
 have H04:Hid (W4.heap[w.heap.size]? =some (.cells (cellsB key) 24 (0,0))):=ae ((hk4 _ (by omega)).trans ((hb3.block _ (by omega)).trans H02.out));have H24:Hid (W4.heap[w.heap.size+2]? =some (.cells (ai bu (.slice none 0 0)) 26 (0,0))):=ae ((hk4 _ (by omega)).trans ((hb3.block _ (by omega)).trans H22.out));have HR4:=ae (Row.jH H04.out);have Bh:Hid (tq w2.heap.size W4 A3 ys):=ae (hz3.aK (Nat.le_of_eq hL4.symm) fun k h1 _=>hk4 k (by omega));have hg2:g2<w2.heap.size/\W.heap.size<=g2:=Yi RS.out;have hby4:∀j,j<(lJ t).length->W4.cell? ⟨g2,0+j,none⟩=some (Extern.Stop.cell ((lJ t)[j]?.getD 0)):=fun j hj=>by
  have h:=RS.out.cells (g:=g2) rfl j (Extern.Stop.cell ((lJ t)[j]?.getD 0)) (by rw [List.getElem?_map,bK hj];rfl);rw [addr_add] at h;rw [Nat.zero_add];exact (World.cell?_of_block (a:=⟨g2,j,none⟩) ((hk4 _ (by show g2≠w.heap.size+1;omega)).trans (hb3.block _ hg2.1))).trans h
 have HKC:=ae (MS KR HK.out W4 (HG.out.via hB4 hw0) key (lJ t) HKY.out (by have:=(JK t HF.out).1;omega) (by have:=HL.out;omega) g2 0 c2 (by omega) hby4);have HW4:=ae RG;have HB4:=ae hB4;clear hz3 he3 hb3 h13 hk4 hB4 hby4 RG iM HOO2 RS HR2 WE H02 H22 HB2;go_wp2_with (first
  |(with_reducible refine bY 26 ?_;refine wpList_store_row rfl _ _ _ rfl (w.heap.size+1) (ai t (.slice A3 n c3)) rfl rfl 26 (ai t (.slice A n c)) H13.out (dU.out _) (EE.out _ _) (aT _ _ _ _) ?_;rw [HW4.out])
  |(with_reducible refine dY 24 ?_;refine aJ rfl _ _ rfl w.heap.size rfl (cellsB key) HR4.out _ Tryz.underlying24 rfl (BN _ HKY.out) ?_))
 refine HKC.out.mono ?_;rintro e w5 ⟨rfl,hb5⟩;rw [qV.out];have h15:w5.heap[w.heap.size+1]? =some (.cells (ai t (.slice A3 n c3)) 26 (0,0)):=(hb5.block _ (by omega)).trans H14.out;obtain ⟨W6,hW6⟩:∃W6,w5.setCells (w.heap.size+1) 36 (cellsB m).toList=W6:=⟨_,rfl⟩;have H16:Hid (W6.heap[w.heap.size+1]? =some (.cells (ai {t with bP:=m} (.slice A3 n c3)) 26 (0,0))):=ae (by
  rw [<-hW6];have h:=vZ (cellsB m).toList w5 (w.heap.size+1) 36 _ _ h15;rw [show (cellsB m).toList=ax m from rfl,QO t _ m HF.out.prev HF.out.bP pg] at h;exact h)
 have hB6:Below w.heap.size w W6:=by rw [<-hW6];exact sG (Nat.le_succ _) _ _ _ (ah HB4.out hb5)
 have hk6:∀k,k≠w.heap.size+1->W6.heap[k]? =w5.heap[k]? :=fun k hk=>by rw [<-hW6];exact sK _ _ _ _ k hk
 have hL6:W6.heap.size=w5.heap.size:=by rw [<-hW6];exact uA _ _ _ _
 have hl5:=hb5.size;have H26:Hid (W6.heap[w.heap.size+2]? =some (.cells (ai bu (.slice none 0 0)) 26 (0,0))):=ae ((hk6 _ (by omega)).trans ((hb5.block _ (by omega)).trans H24.out));have Lp:Hid (tq w2.heap.size W6 A3 ys):=ae (Bh.out.aK (by omega) fun k h1 h2=>(hk6 k (by omega)).trans (hb5.block k h2));have Iz:Hid (w5.there (w.heap.size+1) 36 (cellsB m).size):=ae fun j hj=>⟨by rw [cell_of_row _ (w.heap.size+1) _ _ _ _ h15];have hs:=bf t (.slice A3 n c3) HF.out.prev HF.out.bP;rw [fG,pg] at hj;rw [Array.getElem?_eq_getElem (by omega)];rfl,frozen_of_row _ _ _ _ _ h15⟩;have yj:=ae (Row.jH H16.out);have HW6:=ae hW6;have zS:=ae hB6;have HSM:Hid (∀v,(Tryz.prog.info? 26).map (·.size)=some (ai {t with bP:=m} v).size):=ae fun v=>bD _ v HF.out.prev pg;have oD:Hid (∀v,(ai bu (.slice none 0 0)).size=(ai {t with bP:=m} v).size):=ae fun v=>(bf bu _ rfl rfl).trans (bf {t with bP:=m} v HF.out.prev pg).symm;have Si:=ae (BN m pg);clear h15 hW6 hB6 hk6 hb5 HKC H14 H24 Bh HR4 H04 HB4;go_wp2_with (first
  |(with_reducible refine bY 24 ?_;refine wpList_store_mid rfl _ _ _ rfl (w.heap.size+1) 36 (cellsB m) rfl rfl Iz.out Si.out (oW _) ?_;rw [HW6.out])
  |(with_reducible refine dY 26 ?_;refine aJ rfl _ _ rfl (w.heap.size+1) rfl (ai {t with bP:=m} (.slice A3 n c3)) yj.out _ Tryz.underlying26 rfl (HSM.out _) ?_)
  |(with_reducible refine bY 26 ?_;refine wpList_store_row rfl _ _ _ rfl (w.heap.size+2) (ai {t with bP:=m} (.slice A3 n c3)) rfl rfl 26 (ai bu (.slice none 0 0)) H26.out (HSM.out _) (oD.out _) (aT _ _ _ _) ?_))
 refine bodyPost_ret (v:= .tuple #[.agg (ai {t with bP:=m} (.slice A3 n c3)),I 0]) (aV rfl _ _ (w.heap.size+2) _ (ai {t with bP:=m} (.slice A3 n c3)) (0,0) _ rfl (setRow_heap _ _ _ _ _ _ H26.out) Tryz.underlying26 rfl (HSM.out _) _ rfl) rfl ?_;refine ⟨A3,c3,ys,rfl,(Lp.out.aK ?_ fun k h1 h2=>setRow_other _ _ k _ (by omega)).lower (by omega),HE3.out,aB zS.out (Nat.le_succ_of_le (Nat.le_succ _)) _⟩;simp [World.setRow]
theorem YD (w:World) (key:List UInt8) (t:Tb) (A:Option Addr) (n c:Nat) (zs:List dw) (hp:t.prev.length=32) (hm:t.bP.length=32) (hv:mg t≠0) (hzz:t.aF=zs.map (·.e)) (hn:zs.length=n) (hA:kz w w.heap.size A zs):
  Calls Tryz.prog 31 #[.agg (cellsB key), .agg (ai t (.slice A n c))] w (Gives (.tuple #[.agg (ai bu (.slice none 0 0)),I (mg t)]) w):=by
 have dU:Hid (∀v,(Tryz.prog.info? 26).map (·.size)=some (ai t v).size):=ae fun v=>bD t v hp hm;have vk:Hid (∀W,Below w.heap.size w W->Calls Tryz.prog 22 #[.agg (ai t (.slice A n c))] W (Gives (.tuple #[.slice none 0 0,I (mg t)]) W)):=ae fun W hb=>wB t A n c zs W hp hm hzz hn (hA.grow hb) hv;have H0:=ae (SK.start w (cellsB key) (ai t (.slice A n c)));obtain ⟨rv,zi⟩:∃v,mg t=v:=⟨_,rfl⟩;rw [zi] at vk hv ⊢;have q12:(rv !=0)=true:=by simp [hv]
 clear hp hm hzz hn hA zi;go_enter Tryz.func31,Tryz.ntmps31;go_upto_region 1 with (first
  |((with_reducible refine aZ 26 ?_);go_must (refine aG rfl _ rfl (ai bu (.slice none 0 0)) ed ?_)))
 rw [show w.heap.size+1+1=w.heap.size+2 from rfl];generalize ((w.alloc (.cells (cellsB key) 24)).alloc (.cells (ai t (.slice A n c)) 26)).alloc (.cells (ai bu (.slice none 0 0)) 26)=W0 at H0 ⊢;go_wp2_with ((with_reducible refine eF 26 ?_);go_must (refine aP rfl _ _ rfl (w.heap.size+1) rfl (ai t (.slice A n c)) H0.out.t.jw _ Tryz.underlying26 rfl (dU.out _) ?_));refine (vk.out W0 H0.out.lo).mono ?_;rintro e w1 ⟨rfl,b1⟩;have H1:=ae (H0.out.grow b1);clear b1 H0 vk;go_wp2_with (first
  |((with_reducible refine fP 26 ?_);go_must (refine bz rfl _ rfl (ai bu (.slice none 0 0)) (by kernel_rfl) ?_))
  |((with_reducible refine dW 26 ?_);go_must (refine wpList_store_row rfl _ _ _ rfl (w.heap.size+2) (ai bu (.slice none 0 0)) rfl rfl 26 (ai bu (.slice none 0 0)) H1.out.r.var (bD bu _ rfl rfl) rfl (aT _ _ _ _) ?_)))
 refine bodyPost_ret (v:= .tuple #[.agg (ai bu (.slice none 0 0)),I rv]) (aV rfl _ _ (w.heap.size+2) _ (ai bu (.slice none 0 0)) (0,0) _ rfl (setRow_heap _ _ _ _ _ _ H1.out.r.var) Tryz.underlying26 rfl (bD bu _ rfl rfl) _ rfl) rfl ?_;exact ⟨rfl,aB H1.out.lo (Nat.le_succ_of_le (Nat.le_succ _)) _⟩
theorem QG (key:List UInt8) (x:dF) (w:World) (hx:fV w w.heap.size x) (hv:mg x.t≠0):
  Calls Tryz.prog 12 #[.agg (cD key), .agg (ai x.t (.slice x.A x.zs.length x.c))] w (Gives (.tuple #[.agg (ai bu (.slice none 0 0)),I (mg x.t)]) w):=by
 obtain ⟨t,A,c,zs⟩:=x;simp only at hv ⊢;have qP:t.prev.length=32:=hx.prev;have pg:t.bP.length=32:=hx.bP;obtain ⟨n,hn⟩:∃n,zs.length=n:=⟨_,rfl⟩;rw [hn];have vk:Hid (∀W,Below w.heap.size w W->Calls Tryz.prog 30 #[.agg (ai t (.slice A n c))] W (Gives (.tuple #[.slice none 0 0,I (mg t)]) W)):=ae (fun W hb=>by rw [<-hn];exact zq ⟨t,A,c,zs⟩ W ((hx.keep hb).more hb.size) hv);have dU:Hid (∀v,(Tryz.prog.info? 26).map (·.size)=some (ai t v).size):=ae fun v=>bD t v qP pg;have H0:=ae (SK.start w (cD key) (ai t (.slice A n c)));obtain ⟨rv,zi⟩:∃v,mg t=v:=⟨_,rfl⟩;rw [zi] at vk hv ⊢;have q12:(rv !=0)=true:=by simp [hv]
 clear hx qP pg hn zi;go_enter Tryz.func12,Tryz.ntmps12;go_upto_region 1 with (first
  |((with_reducible refine aZ 26 ?_);go_must (refine aG rfl _ rfl (ai bu (.slice none 0 0)) ed ?_)))
 rw [show w.heap.size+1+1=w.heap.size+2 from rfl];generalize ((w.alloc (.cells (cD key) 24)).alloc (.cells (ai t (.slice A n c)) 26)).alloc (.cells (ai bu (.slice none 0 0)) 26)=W0 at H0 ⊢;go_wp2_with ((with_reducible refine eF 26 ?_);go_must (refine aP rfl _ _ rfl (w.heap.size+1) rfl (ai t (.slice A n c)) H0.out.t.jw _ Tryz.underlying26 rfl (dU.out _) ?_));refine (vk.out W0 H0.out.lo).mono ?_;rintro e w1 ⟨rfl,b1⟩;have H1:=ae (H0.out.grow b1);clear b1 H0 vk;go_wp2_with (first
  |((with_reducible refine fP 26 ?_);go_must (refine bz rfl _ rfl (ai bu (.slice none 0 0)) (by kernel_rfl) ?_))
  |((with_reducible refine dW 26 ?_);go_must (refine wpList_store_row rfl _ _ _ rfl (w.heap.size+2) (ai bu (.slice none 0 0)) rfl rfl 26 (ai bu (.slice none 0 0)) H1.out.r.var (bD bu _ rfl rfl) rfl (aT _ _ _ _) ?_)))
 refine bodyPost_ret (v:= .tuple #[.agg (ai bu (.slice none 0 0)),I rv]) (aV rfl _ _ (w.heap.size+2) _ (ai bu (.slice none 0 0)) (0,0) _ rfl (setRow_heap _ _ _ _ _ _ H1.out.r.var) Tryz.underlying26 rfl (bD bu _ rfl rfl) _ rfl) rfl ?_;exact ⟨rfl,aB H1.out.lo (Nat.le_succ_of_le (Nat.le_succ _)) _⟩
def ZonP (w:World) (zs:List Ze) (name:ByteArray) (e:Ending) (w':World):Prop:=
 Below w.heap.size w w'/\((mP zs name=none/\e= .returned (.tuple #[.agg iH,I 4]))\/∃z s,mP zs name=some z/\e= .returned (.tuple #[.agg (ay z s),I 0])/\iP w w.heap.size s z/\∃e∈zs,e.z=z)
theorem rC (z:Zn) (s:Zs):(Tryz.prog.info? 69).map (·.size)=some (ay z s).size:=by kernel_rfl
theorem Ar (z:Zn) (s:Zs):(ay z s).all (·.oneCell')=true:=by kernel_rfl
theorem JB (x:dF) (n:Nat) (name:ByteArray) (w:World) (hn:x.zs.length=n) (hn1:n<=100000) (h:fV w w.heap.size x):
  Calls Tryz.prog 32 #[.agg (ai x.t (.slice x.A n x.c)), .string name] w (ZonP w x.t.aF name):=by
 obtain ⟨t,A,c,zs⟩:=x;simp only at hn h ⊢;have HN:=ae hn;have HC:=ae h.aF;have HZT:Hid (t.aF=zs.map (·.e)):=ae h.names;have H0:=ae (V2.start w 26 (ai t (.slice A n c)) 69 iH);clear hn h;go_enter Tryz.func32,Tryz.ntmps32;go_upto_region 1 with (first
  |((with_reducible refine aZ 69 ?_);go_must (refine aG rfl _ rfl iH (by kernel_rfl) ?_)))
 generalize (w.alloc (.cells (ai t (.slice A n c)) 26)).alloc (.cells iH 69)=W0 at H0 ⊢;have c3:W0.cell? ⟨w.heap.size,3,none⟩=some (.slice A n c):=(Row.jH H0.out.s.var).2 3;have N7:=ae H0.out.lo;have KW:=ae H0.out.r.var;go_wp2_with fail
 go_loopw [6] (fun i wr=>∃k:Nat,k<=n/\i= .int .i64 k/\(∀(j:Nat) (y:dw),j<k->zs[j]? =some y->yI y.e.name name=false)/\wr=W0) (fun i _=>n - (intOf i).toNat)
 case atStart=>exact ⟨0,Nat.zero_le _,rfl,fun j y hj=>absurd hj (Nat.not_lt_zero _),rfl⟩
 case round=>
  obtain ⟨k,hk,rfl,hall,rfl⟩:=hrel;have iq:=ae hall;clear hall;by_cases hlt:k<n
  ·have hkl:k<zs.length:=by rw [HN.out];exact hlt
   obtain ⟨x,hx⟩:∃x,zs[k]? =some x:=⟨_,bK hkl⟩;obtain ⟨b,off,rfl,hbw,hcl⟩:=HC.out.row.there (by rw [dX];omega);have HX:=ae hx;have yf:Hid (wr.rangeAt b (off+k*9) x.cells.toList):=ae fun j u hu=>by
    have hj:j<9:=(gQ.1 hu).1;rw [Nat.add_assoc];refine (N7.out.cell (p:=⟨b,off+(k*9+j),none⟩) hbw).trans (hcl _ u ?_);rw [lG zs k j x hx hj];simpa using hu
   have hnm:wr.cell? ⟨b,off+k*9,none⟩=some (.string x.e.name):=yf.out 0 _ rfl;have WJ:Hid (wr.rangeAt b (off+k*9+1) (ay x.e.z x.s).toList):=ae fun j u hu=>by
    rw [Nat.add_assoc];exact yf.out (1+j) u (by rw [Nat.add_comm];exact hu)
   have HZA:=ae (HC.out.each x (gZ hx));have i0:(0:Int)<=(k:Int):=by omega
   have i1:(k:Int)<(n:Int):=by omega
   clear hkl hx hcl;obtain ⟨q,hq⟩:∃q,yI x.e.name name=q:=⟨_,rfl⟩;have hq2:(x.e.name.toList==name.toList)=q:=hq;have HQ:=ae hq;clear hq;cases q with
   |false=>
    go_wp2_with fail;go_roundw
    case rel=>
     refine ⟨k+1,by omega,by go_num,fun j y hj hy=>?_,by first|rfl|trivial⟩;by_cases e:j=k
     ·subst e;have h1:=HX.out;rw [hy] at h1;injection h1 with h1;rw [h1];exact HQ.out
     ·exact iq.out j y (by omega) hy
    case measure=>simp [intOf];omega
   |true=>
    go_wp2_with (first
     |((with_reducible refine dY 69 ?_);go_must (refine wpList_load_mid rfl _ _ rfl b (off+k*9+1) rfl (ay x.e.z x.s).toList _ WJ.out Tryz.underlying69 rfl (rC x.e.z x.s) ?_))
     |((with_reducible refine dW 69 ?_);go_must (refine wpList_store_row rfl _ _ _ rfl (w.heap.size+1) (ay x.e.z x.s) rfl rfl 69 iH KW.out (rC _ _) rfl (Ar _ _) ?_)))
    refine bodyPost_ret (v:= .tuple #[.agg (ay x.e.z x.s),I 0]) (aV rfl _ _ (w.heap.size+1) _ (ay x.e.z x.s) (0,0) _ rfl (setRow_heap _ _ _ _ _ _ KW.out) Tryz.underlying69 rfl (rC _ _) _ rfl) rfl ?_;refine ⟨aB N7.out (Nat.le_succ _) _, .inr ⟨x.e.z,x.s,?_,rfl,HZA.out,x.e,?_,rfl⟩⟩
    ·rw [HZT.out];exact Dq HX.out HQ.out iq.out
    ·rw [HZT.out];exact List.mem_map_of_mem (gZ HX.out)
  ·have hke:k=n:=by omega
   have FP:Hid (mP t.aF name=none):=ae (by rw [HZT.out];exact Dp fun j y hy=>iq.out j y (by have h1:=(gQ.1 hy).1;have:=HN.out;omega) hy);have hnl:¬(k:Int)<(n:Int):=by omega
   clear hke hlt;go_wp2_with (first
    |((with_reducible refine fP 69 ?_);go_must (refine bz rfl _ rfl iH (by kernel_rfl) ?_))
    |((with_reducible refine dW 69 ?_);go_must (refine wpList_store_row rfl _ _ _ rfl (w.heap.size+1) iH rfl rfl 69 iH KW.out (by kernel_rfl) rfl (by kernel_rfl) ?_)))
   refine bodyPost_ret (v:= .tuple #[.agg iH,I 4]) (aV rfl _ _ (w.heap.size+1) _ iH (0,0) _ rfl (setRow_heap _ _ _ _ _ _ KW.out) Tryz.underlying69 rfl (by kernel_rfl) _ rfl) rfl ?_;exact ⟨aB N7.out (Nat.le_succ _) _, .inl ⟨FP.out,rfl⟩⟩
attribute [local go_sem] dI dM dJ dN fM fO dG dK dH dL jd je
def iR (cs:Array Value) (o:Nat):List Value->Array Value
 | []=>cs
 |v::vs=>iR (cs.setIfInBounds o v) (o+1) vs
def TItR (M:Nat) (w:World) (rb pb po:Nat) (t:TypeId) (cs:Array Value) (vs:List Value) (R:List UInt8) (e:Ending) (w':World):Prop:=
 e= .returned (.tuple #[])/\jO M w' rb R/\bH w rb pb t (iR cs po vs) w'
theorem rdN_2s (x:Int) (h0:0<=x) (h1:x<65536) (R:List UInt8):O0 (le x 2++R) false 2=x:=by
 rw [rdN_2];omega
def TSetR (M:Nat) (w:World) (rb pb po:Nat) (t:TypeId) (cs:Array Value) (v:Value) (R:List UInt8) (e:Ending) (w':World):Prop:=
 e= .returned (.tuple #[])/\jO M w' rb R/\bH w rb pb t (cs.setIfInBounds po v) w'
end Go.Proofs.YtbaehbbonkljpaaGreatDoor
namespace Go.Proofs.YtbaehbbonkljpaaGreatDoor
open Go Go.RowKit
attribute [local go_sem] dI dM dJ dN fM fO dG dK dH dL
def nJ:List PanicEntry:= [{v:= .iface 132 (.agg #[]),recovered:=false}]
def Zg (w:World) (e:Ending) (w':World):Prop:=e= .panicked nJ/\Below w.heap.size w w'
theorem xP (M:Nat) (w:World) (rb n:Nat) (rest:List UInt8) (hr:jO M w rb rest) (hn:rest.length<n):
  Calls Tryz.prog 186 #[.pointer (some ⟨rb,0,none⟩),I n] w fun e w'=>e= .panicked nJ/\w'=w:=by
 obtain ⟨⟨bb,off,c,h1,_⟩,_⟩:=hr;have hc0:w.cell? ⟨rb,0,none⟩=some (.slice (some ⟨bb,off,none⟩) rest.length c):=cell_of_row w rb 0 _ _ _ h1;obtain ⟨m,hm⟩:∃m,rest.length=m:=⟨_,rfl⟩;rw [hm] at hc0 hn;have n0:(m:Int)<(n:Int):=by omega
 clear h1 hm;go_enter Tryz.func186,Tryz.ntmps186
 go_wp2
 exact ⟨rfl,rfl,rfl⟩
theorem JW (M:Nat) (w:World) (rb pb po size:Nat) (t:TypeId) (cs:Array Value) (rest:List UInt8) (hr:jO M w rb rest) (hn:rest.length<size) (hp:w.heap[pb]? =some (.cells cs t (0,0))) (hpo:po<cs.size) (qO:M<=pb) (hne:pb≠rb):
  Calls Tryz.prog 183 #[pt rb, .pointer (some ⟨pb,po,none⟩),I size] w fun e w'=>e= .panicked nJ/\gB pb w w':=by
 refine (callsIn_wide (n:=3)).1 ?_;have hro:Fence.wide.round=none:=rfl;have h1:1<=3:=by omega
 have hlt:=hr.lt;have hpl:pb<w.heap.size:=(bV.1 hp).1;have hMl:=hr.lo;have hc0:w.cell? ⟨pb,po,none⟩=some cs[po]:=by rw [cell_of_row w pb po _ _ _ hp];exact Array.getElem?_eq_getElem hpo
 have hf0:w.frozen? ⟨pb,po,none⟩=false:=frozen_of_row w pb po _ _ hp;obtain ⟨WS,hWS⟩:∃W,w.setCell ⟨pb,po,none⟩ (I 0)=W:=⟨_,rfl⟩;have zW:gB pb w WS:=by rw [<-hWS];exact ⟨rfl,rfl,rfl,by simp [World.setCell],fun k _ hk2=>heap_setCell_other _ _ k _ hk2⟩
 obtain ⟨W1,hW1⟩:∃W,WS.alloc (.cells #[.pointer (some ⟨pb,po,none⟩)] 125)=W:=⟨_,rfl⟩;have hk1:gB pb w W1:=by
  rw [<-hW1];exact ⟨zW.os,zW.tape,zW.output,Nat.le_trans zW.size (by simp),fun k hk hk2=>(Below.heap_alloc WS _ k (dP hk zW.size)).trans (zW.block k hk hk2)⟩
 rw [<-hWS] at hW1;have hr1:jO M W1 rb rest:=hr.of (hk1.block rb hlt (fun e=>hne e.symm)) fun k hk=>hk1.block k (by omega) (by omega);have HT:=ae (xP M W1 rb size rest hr1 hn);have jP:=ae hk1;have HW1:=ae hW1;clear hr hr1 hk1 zW hW1 hWS hp;refine callsIn_of_wp_marks Tryz.func183 rfl trivial ?_ hro;simp only [Tryz.ntmps183,List.size_toArray,List.length_cons,List.length_nil,Nat.reduceAdd,Nat.reduceSub,Array.replicate_succ,Array.replicate_zero,List.push_toArray,List.append_toArray,List.nil_append,List.cons_append]
 gi_wp2_with first
  |(refine ⟨trivial,?_⟩;gi_at_call 186;rw [HW1.out];refine (callsIn_wide.2 HT.out).mono ?_;rintro e w2 ⟨rfl,rfl⟩)
 exact ⟨rfl,jP.out⟩
theorem JU (M:Nat) (w:World) (rb size:Nat) (m:Int) (rest:List UInt8) (hr:jO M w rb rest) (hn:rest.length<size):
  Calls Tryz.prog 182 #[pt rb,I m,I size] w (Zg w):=by
 have hl:=hr.lt;have hlo:=hr.lo;have hb:=ag w (.cells #[I 0] 3);have hpl:=heap_alloc_last w (.cells #[I 0] 3);have HC:=ae (JW M (w.alloc (.cells #[I 0] 3)) rb w.heap.size 0 size 3 #[I 0] rest (hr.below hb hl) hn hpl (by decide) (by omega) (by omega));have HB:=ae hb;clear hr hb hpl;go_enter Tryz.func182,Tryz.ntmps182;go_wp2_with fail;refine HC.out.mono ?_;rintro e w1 ⟨rfl,hk⟩;exact ⟨rfl,rfl,hk.os,hk.tape,hk.output,by have:=hk.size;simp at this;omega,fun k hk2=>(hk.block k (by simp;omega) (by omega)).trans (HB.out.block k hk2)⟩
end Go.Proofs.YtbaehbbonkljpaaGreatDoor
