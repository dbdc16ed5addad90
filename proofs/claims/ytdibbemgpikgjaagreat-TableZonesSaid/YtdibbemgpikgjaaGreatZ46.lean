/- The texts Sg, in this order. -/
import Derived.Test.YtdibbemgpikgjaaGreatZ00
import Derived.Test.YtdibbemgpikgjaaGreatZ29
import Derived.Test.YtdibbemgpikgjaaGreatZ32
import Derived.Test.YtdibbemgpikgjaaGreatZ44
import Derived.Test.YtdibbemgpikgjaaGreatZ45
set_option maxRecDepth 10000
set_option maxHeartbeats 8000000
namespace Go.Proofs.YtdibbemgpikgjaaGreat
open Go Go.RowKit
theorem YE (a b:Int) (hb:0<b):a%b=if a.tmod b<0 then a.tmod b+b else a.tmod b:=by
 have h2: -b<a.tmod b:=by
  have:=Int.tmod_lt_of_pos (-a) hb;rw [Int.neg_tmod] at this;omega
 have h1:=Int.tmod_lt_of_pos a hb;have h3:a%b=(a.tmod b)%b:=by
  rw [Int.tmod_def];rw [Int.sub_emod,Int.mul_emod_right];simp
 rw [h3];split
 ·rw [←Int.add_emod_right,Int.emod_eq_of_lt (by omega) (by omega)]
 ·rw [Int.emod_eq_of_lt (by omega) (by omega)]
theorem Rf (a b:Int) (w:World) (hb:0<b) (hb2:b≤1000000000000000000) (ha: -9223372036854775808≤a∧a≤9223372036854775807):
  Calls Tryz.prog 11 #[I a,I b] w fun e w'=>e= .returned (I (a%b))∧w'=w:=by
 have he:=YE a b hb;obtain ⟨ha1,ha2⟩:=ha;have hb0:b≠0:=by omega
 have hb1:b≠ -1:=by omega
 have h2:=Int.tmod_lt_of_pos a hb;have h3: -b<a.tmod b:=by
  have:=Int.tmod_lt_of_pos (-a) hb;rw [Int.neg_tmod] at this;omega
 obtain ⟨q,hq⟩:∃q,a.tmod b=q:=⟨_,rfl⟩;rw [hq] at he h2 h3;by_cases h:q<0
 ·rw [if_pos h] at he;go_enter Tryz.func11,Tryz.ntmps11
  go_wp2
  go_ret;exact ⟨by first|rfl|(rw [he];rfl),rfl⟩
 ·rw [if_neg h] at he;go_enter Tryz.func11,Tryz.ntmps11
  go_wp2
  go_ret;exact ⟨by first|rfl|(rw [he];rfl),rfl⟩
theorem Ef:∀k,k<3→∀j,j<3→y9 (aT j) (aT k)=decide (j=k):=by decide+kernel
theorem NZ {t:Tb} (h:Ey t) {ys:List dm} (hy:ys.map (·.e)=t.aS) {k:Nat} {e:Ze} (hk:t.aS[k]? =some e):pJ t.aS e.name=some e.z:=by
 have hl:∀j (y:dm),ys[j]? =some y→t.aS[j]? =some y.e:=fun j y hj=>by rw [←hy,List.getElem?_map,hj];rfl
 have hb:∀j (f:Ze),t.aS[j]? =some f→j<3:=fun j f hj=>by
  have h1:=(iU.1 hj).1;have h2:=h.num;omega
 obtain ⟨y,hyk⟩:∃y,ys[k]? =some y:=by
  have h1:=(iU.1 hk).1;rw [←hy,List.length_map] at h1;exact ⟨_,dE h1⟩
 have he:e=y.e:=Option.some.inj (hk.symm.trans (hl k y hyk));subst he;rw [←hy];refine BL hyk ?_ fun j y2 hj hy2=>?_
 ·rw [h.names k _ hk,Ef k (hb k _ hk) k (hb k _ hk)];simp
 ·rw [h.names k _ hk,h.names j _ (hl j y2 hy2),Ef k (hb k _ hk) j (hb j _ (hl j y2 hy2))];simp;omega
def Yu (z:Zn) (w:World) (e:Ending) (w':World):Prop:=
 ∃s,e= .returned (.tuple #[.agg (aj z s),I 0])∧NJ w.heap.size w' s z∧Below w.heap.size w w'
theorem KZ {w:World} {zs:List Ze} {name:ByteArray} {z:Zn} {e:Ending} {w':World} (h:Qa w zs name e w') (hz:pJ zs name=some z):Yu z w e w':=by
 obtain ⟨hb,⟨h1,_⟩|⟨z2,s,h1,h2,h3,_⟩⟩:=h
 ·rw [hz] at h1;cases h1
 ·rw [hz] at h1;injection h1 with h1;subst h1;exact ⟨s,h2,h3,hb⟩
theorem Bo (w:World) (r:nV) (at_ x:Int) (hr:uo w w.heap.size r) (hat: -9223372036854775808≤at_∧at_≤9223372036854775807) (hx0:0≤x) (hx1:x<256):
  Calls Tryz.prog 4 #[.agg r.cells.toArray,I at_, .int .u8 x] w (Gives (.bool true) w):=by
 have HRI:Hid ((Tryz.prog.info? 27).map (·.size)=some r.cells.toArray.size):=ae (by rw [show r.cells.toArray.size=34 by simpa using nV.len r hr.key];kernel_rfl);have HB0:=ae (ag w (.cells r.cells.toArray 27));have HR0:=ae (Row.new w r.cells.toArray 27);have XM:Hid (∀W,Below w.heap.size w W→Calls Tryz.prog 9 #[.agg r.cells.toArray] W (PY W)):=ae fun W h=>Q5 r W ((hr.keep h).more h.size);have Lj:=ae (fun W=>Rf at_ 400000 W (by omega) (by omega) hat);have hmo0:=Int.emod_nonneg at_ (show (400000:Int)≠0 by omega);have hmo1:=Int.emod_lt_of_pos at_ (show (0:Int)<400000 by omega);obtain ⟨mo,hmo⟩:∃m,at_%400000=m:=⟨_,rfl⟩;rw [hmo] at Lj hmo0 hmo1;have hmw:IntKind.i64.wrap (mo - 1000)=mo - 1000:=by rw [IntKind.wrap_i64];omega
 unfold PY at XM;clear hr hat hmo;go_enter Tryz.func4,Tryz.ntmps4;go_upto_region 1 with fail;generalize w.alloc (.cells r.cells.toArray 27)=W0 at HB0 HR0 ⊢;go_wp2_with fail;refine (J7 W0).mono ?_;rintro e w1 ⟨rfl,b1⟩;have HB1:=ae (ah HB0.out b1);have HR1:=ae (HR0.out.keep b1);clear b1 HB0 HR0;go_wp2_with ((with_reducible refine dI 27 ?_);go_must (refine aV rfl _ _ rfl w.heap.size rfl r.cells.toArray HR1.out _ Tryz.underlying27 rfl HRI.out ?_));refine (XM.out w1 HB1.out).mono ?_;rintro e w2 ⟨A,n,c,ts,rfl,htl,hn5,hca,CY,_,hb2⟩;have HB2:=ae (ah HB1.out hb2);have Ae:=ae htl;have HCA:=ae hca;have Ti:=ae CY;clear htl hca CY hb2 HB1 XM HR1;by_cases hn0:n=0
 ·have t0:((n:Int)==0)=true:=by simp [hn0]
  have t1:(n==0)=true:=by simp [hn0]
  clear hn0;go_wp2_with fail;go_ret;exact ⟨rfl,HB2.out⟩
 ·have t0:((n:Int)==0)=false:=by simp;omega
  have t1:(n==0)=false:=by simp;omega
  have hnn:¬(n:Int)=0:=by omega
  have hx2:0≤x%(n:Int):=Int.emod_nonneg _ hnn;have hx3:x%(n:Int)<(n:Int):=Int.emod_lt_of_pos _ (by omega);have CY:x.tmod (n:Int)=x%(n:Int):=Int.tmod_eq_emod_of_nonneg hx0;obtain ⟨i,hi⟩:∃i:Nat,x%(n:Int)=(i:Int):=⟨(x%(n:Int)).toNat,by omega⟩;have hin:i<n:=by omega
  have i0:(0:Int)≤(i:Int):=by omega
  have i1:(i:Int)<(n:Int):=by omega
  obtain ⟨z,hz⟩:∃z,ts[i]? =some z:=⟨_,dE (by rw [Ae.out];omega)⟩;have hzm:=fK hz;obtain ⟨cb,co,rfl,hcb,hTA⟩:∃b off,A=some ⟨b,off,none⟩∧b<w2.heap.size∧rJ w2 b off ts:=by
   rcases zK HCA.out with h1|h1
   ·have:=Ae.out;omega
   ·exact h1
  have HZR:=ae (hTA i z hz).1;have Zm:=(hTA i z hz).2;have I4:Hid ((Tryz.prog.info? 32).map (·.size)=some z.cells.length):=ae (by rw [Zm];kernel_rfl);have HZI2:Hid ((Tryz.prog.info? 32).map (·.size)=some z.cells.toArray.size):=ae (by rw [List.size_toArray,Zm];kernel_rfl);have HZ0:Hid ((ai bQ (.slice none 0 0)).size=z.cells.toArray.size):=ae (by rw [bG bQ _ rfl rfl,List.size_toArray,Zm]);have Ue:=ae (HCA.out.each z hzm);have Z8:=ae (Ti.out z hzm);have HZ1:Hid (z.cells.toArray.all (·.oneCell')=true):=ae (bf z.t _ _ _);clear hz hzm hTA hn0 hnn;rw [hi] at hx2 hx3 CY;go_upto_region 6 with (first
   |((with_reducible refine dI 32 ?_);go_must (refine bC rfl _ _ rfl cb (co+i*68) rfl z.cells HZR.out _ Tryz.underlying32 rfl I4.out ?_))
   |((with_reducible refine bT 32 ?_);go_must (refine dH rfl _ _ _ rfl z.cells.toArray rfl rfl 32 (ai bQ (.slice none 0 0)) rfl HZI2.out HZ0.out HZ1.out ?_;intro W3 hb3 hl3 hr3;have HB3:=ae hb3;have HR3:=ae hr3;clear hb3 hr3)))
  have FO:=ae (Z8.out.good Ue.out.prev Ue.out.bK);have um:=ae (Z8.out.up Ue.out.names);have HW3:=ae (ah HB2.out HB3.out);have HZ3:=ae (Ue.out.grow HB3.out);have VY:=ae (MO z.t FO.out);have yR:Hid (Calls Tryz.prog 7 #[.agg z.cells.toArray] W3 (Jr W3 (Bq z.t))):=ae (qW z.t z.A z.zs.length z.c z.zs W3 FO.out HZ3.out.names rfl HZ3.out.aS um.out);obtain ⟨m,hm⟩:∃m,z.zs.length=m:=⟨_,rfl⟩;have HM:=ae hm;have SS:=ae Ue.out.names;have XL:Hid (z.t.aS.length=m):=ae (by rw [Ue.out.names,List.length_map,hm]);have JH:m≤3:=by have h1:=Z8.out.num;have h2:=XL.out;omega
  obtain ⟨N,hN⟩:∃N,(Bq z.t).length=N:=⟨_,rfl⟩;have HN:=ae hN;have hN1:N≤18000:=by rw [←hN];exact VY.out.2
  obtain ⟨tb,htb⟩:∃b,w2.heap.size=b:=⟨_,rfl⟩;rw [htb] at HR3 hl3;have htb0:w.heap.size≤tb:=by rw [←htb];exact HB2.out.size
  rw [htb] at hcb;simp only [htb];clear hm hN t0 t1 HB2 HCA Ti Ae HZR Ue HB3;go_upto_region 7 with ((with_reducible refine dI 32 ?_);go_must (refine aV rfl _ _ rfl tb rfl z.cells.toArray HR3.out _ Tryz.underlying32 rfl HZI2.out ?_));refine yR.out.mono ?_;rintro e w4 ⟨⟨g4,c4,rfl,yx⟩,hb4⟩;rw [HN.out] at yx ⊢;have hg4:=gq yx;obtain ⟨cu4,_,_,hc4a,hc4b,_⟩:=jq yx;have Tc:=ae (Bl w4 z.t m N g4 0 c4 FO.out XL.out HN.out (fun ys hy=>Z8.out.up hy.symm) hg4.2 hc4a (by unfold maxLen at hc4b;omega) (fun j hj=>by
   rw [Nat.zero_add];refine jW yx j _ ?_;have hjl:j<(Bq z.t).length:=by rw [HN.out];exact hj
   rw [List.getElem?_map,dE hjl];rfl))
  have HB4:=ae hb4;have dM:Hid (∀v,(Tryz.prog.info? 32).map (·.size)=some (ai {z.t with bK:=aO} v).size):=ae fun v=>cu _ v HZ3.out.prev rfl;have vM:Hid (∀v,(ai bQ (.slice none 0 0)).size=(ai {z.t with bK:=aO} v).size):=ae fun v=>by exact (bG bQ _ rfl rfl).trans (bG {z.t with bK:=aO} v HZ3.out.prev rfl).symm
  clear yx hb4 hg4 hc4a hc4b yR VY;go_wp2_with fail;refine Tc.out.mono ?_;rintro e w5 ⟨A5,c5,ys,rfl,hq5,hy5,hb5⟩;have kT:=ae (ah HB4.out hb5);have PM:=ae hq5.zes;have HY5:=ae hy5;have oN:=ae (HR3.out.keep kT.out);clear hq5 hy5 hb5 Tc HB4;go_upto_region 8 with ((with_reducible refine bT 32 ?_);go_must (refine dH rfl _ _ _ rfl (ai {z.t with bK:=aO} (.slice A5 m c5)) rfl rfl 32 (ai bQ (.slice none 0 0)) rfl (dM.out _) (vM.out _) (bf _ _ _ _) ?_;intro W6 hb6 hl6 wY;have Cc:=ae hb6;have vF:=ae wY;clear hb6 wY));have HW6:Hid (Below w.heap.size w W6):=ae (HW3.out.trans ((kT.out.mono HW3.out.size).trans (Cc.out.mono (Nat.le_trans HW3.out.size kT.out.size))));have HQ6:=ae (PM.out.grow Cc.out);have Ls:=ae (HZ3.out.aS.grow (ah kT.out Cc.out));have TU:=ae (oN.out.keep Cc.out);obtain ⟨rb,hrb⟩:∃b,w5.heap.size=b:=⟨_,rfl⟩;rw [hrb] at vF;simp only [hrb];clear hrb;clear kT Cc PM oN HR3 HW3 HZ3;go_wp2_with fail;refine (Lj.out W6).mono ?_;rintro e W6 ⟨rfl,rfl⟩;go_wp2_with fail
  go_loopw [15] (fun i wr=>∃k:Nat,k≤m∧i=I k∧Below W6.heap.size W6 wr) (fun i _=>m - (intOf i).toNat)
  case atStart=>exact ⟨0,Nat.zero_le _,rfl,Below.refl _ _⟩
  case round=>
   obtain ⟨k,hk,rfl,hb⟩:=hrel;have HB:=ae hb;have ht3:wr.cell? ⟨tb,3,none⟩=some (.slice z.A m z.c):=by
    rw [(TU.out.keep hb).2 3,←HM.out];rfl
   clear hb;by_cases hlt:k<m
   ·have hkl:k<z.zs.length:=by rw [HM.out];exact hlt
    obtain ⟨y,hy⟩:∃y,z.zs[k]? =some y:=⟨_,dE hkl⟩;have hym:=fK hy;have hye:z.t.aS[k]? =some y.e:=by rw [SS.out,List.getElem?_map,hy];rfl
    obtain ⟨zb,zo,hzA,hzb,hzr⟩:=Ls.out.at hy;have Ug:Hid (∀W,Below W6.heap.size W6 W→Calls Tryz.prog 12 #[.agg (ai {z.t with bK:=aO} (.slice A5 m c5)), .string y.e.name] W (Yu y.e.z W)):=ae fun W hb=>by
     have hl:ys.length=m:=by rw [←XL.out,←HY5.out,List.length_map]
     have hat:kF W W.heap.size ⟨{z.t with bK:=aO},A5,c5,ys⟩:=⟨HY5.out.symm,FO.out.prev,rfl,HQ6.out.grow hb⟩;refine (BQ ⟨{z.t with bK:=aO},A5,c5,ys⟩ m y.e.name W hl (by have h1:=Z8.out.num;have h2:=XL.out;omega) (fun x hx=>(FO.out.good x.e (by rw [←HY5.out];exact List.mem_map_of_mem hx)).1.len) hat).mono fun e w' h=>?_;exact KZ h (NZ Z8.out HY5.out hye)
    have hgd:=FO.out.good y.e (fK hye);have HYA:=ae (Ls.out.each y hym);have HGD:=ae hgd;have HS:Hid (∀W,Below W6.heap.size W6 W→Row W rb (ai {z.t with bK:=aO} (.slice A5 m c5))∧W.cell? ⟨tb,3,none⟩=some (.slice (some ⟨zb,zo,none⟩) m z.c)∧W.cell? ⟨zb,zo+k*9,none⟩=some (.string y.e.name)∧W.rangeAt zb (zo+k*9+1) (aj y.e.z y.s).toList):=ae fun W hb=>by
     have h1:=aU hzr hb hzb;refine ⟨vF.out.keep hb,?_,?_,?_⟩
     ·rw [(TU.out.keep hb).2 3,←hzA,←HM.out];rfl
     ·have h2:=h1 0 (.string y.e.name) rfl;exact h2
     ·intro j v hv;have h2:=h1 (1+j) v (by rw [←hv,Nat.add_comm 1 j];rfl);rw [←h2,Nat.add_assoc]
    have i0:(0:Int)≤(k:Int):=by omega
    have i1:(k:Int)<(m:Int):=by omega
    unfold Yu at Ug;rw [hzA] at ht3;clear hkl hy hym hye hzr hgd hzA;have I4:Hid (∀s,(Tryz.prog.info? 51).map (·.size)=some (aj y.e.z s).size):=ae fun s=>kC _ _;have hsz:=dM.out (.slice A5 m c5);have O1:Hid (∀W s,gW W W.heap.size s y.e.z→Calls Tryz.prog 13 #[.agg (aj y.e.z s),I (mo - 1000)] W (Gives (.tuple #[I (AZ y.e.z (mo - 1000)),I 0]) W)):=ae fun W s h=>BP y.e.z s (mo - 1000) W HGD.out.1 h HGD.out.2 (by omega);obtain ⟨fo,hfo⟩:∃f,AZ y.e.z (mo - 1000)=f:=⟨_,rfl⟩;rw [hfo] at O1;clear hfo;have hkw:=HB.out.size;go_upto_region 12 with fail
    go_cut [16,17] (fun p q wx=>∃(sb:Nat) (s8:Zs),p=pt sb∧q=I 0∧wx.heap[sb]? =some (.cells (aj y.e.z s8) 51 (0,0))∧Below W6.heap.size W6 wx∧gW wx wx.heap.size s8 y.e.z)
    case first=>
     refine wp_region_held_drew (S:=fun W=>Row W rb (ai {z.t with bK:=aO} (.slice A5 m c5))∧W.cell? ⟨tb,3,none⟩=some (.slice (some ⟨zb,zo,none⟩) m z.c)∧W.cell? ⟨zb,zo+k*9,none⟩=some (.string y.e.name)∧W.rangeAt zb (zo+k*9+1) (aj y.e.z y.s).toList) (by kernel_rfl) (HS.out _ HB.out.drew) (fun hH=>?_);refine mW 0 (.agg (ai {z.t with bK:=aO} (.slice A5 m c5))) 60 rfl rfl hH (yieldsIf_load_mid (by rfl) _ _ rfl rb 0 rfl (ai {z.t with bK:=aO} (.slice A5 m c5)).toList _ (fun W hW j v hv=>by rw [Nat.zero_add,hW.1.2 j];simpa using hv) Tryz.underlying32 rfl (by rw [hsz,Array.length_toList])) ?_;refine ax ?_;refine aK 1 (.pointer (some ⟨tb,3,none⟩)) 61 hH (fun W hW=>?_) ?_
     ·obtain ⟨_,h1,h2⟩:=hW;go_simp
     refine ax ?_;refine aK 2 (.slice (some ⟨zb,zo,none⟩) m z.c) 62 hH (fun W hW=>?_) ?_
     ·obtain ⟨_,h1,h2⟩:=hW;go_simp
     refine ax ?_;refine aK 3 (I k) 63 hH (fun W hW=>?_) ?_
     ·obtain ⟨_,h1,h2⟩:=hW;go_simp
     refine ax ?_;refine aK 4 (.pointer (some ⟨zb,zo+k*9,none⟩)) 64 hH (fun W hW=>?_) ?_
     ·obtain ⟨_,h1,h2⟩:=hW;go_simp
     refine ax ?_;refine aK 5 (.pointer (some ⟨zb,zo+k*9,none⟩)) 65 hH (fun W hW=>?_) ?_
     ·obtain ⟨_,h1,h2⟩:=hW;go_simp
     refine ax ?_;refine aK 6 (.string y.e.name) 66 hH (fun W hW=>?_) ?_
     ·obtain ⟨_,_,h1,h2⟩:=hW;go_simp
     refine ax ?_;clear hH;refine wpAnyH_ready (rs:= [7,11]) (by decide+kernel) (by simp) ?_;refine AllReadyH.cons rfl (fun K hK=>?_) (AllReadyH.cons rfl (fun K hK=>?_) AllReadyH.nil)
     ·go_simp;go_at_call 12;refine (Ug.out _ HB.out.drew).mono ?_;rintro e w8 ⟨s8,rfl,ha8,hb8⟩;have xE:=ah HB.out.drew hb8;refine hK.out _ _ (HS.out _ xE) (fun hH=>?_);clear hK K;refine ax ?_;refine aK 8 (.tuple #[.agg (aj y.e.z s8),I 0]) 59 hH (fun W hW=>?_) ?_
      ·go_simp
      refine ax ?_;refine aK 9 (.agg (aj y.e.z s8)) 68 hH (fun W hW=>?_) ?_
      ·go_simp
      refine ax ?_;refine aK 10 (I 0) 69 hH (fun W hW=>?_) ?_
      ·go_simp
      refine ax ?_;clear hH;refine wpAnyH_ready (rs:= [11]) (by decide+kernel) (by simp) ?_;refine AllReadyH.cons rfl (fun K hK=>?_) AllReadyH.nil;refine fQ (o:=⟨some 16, .alloc 51,_,_,_,none⟩) rfl 51 rfl iQ (by kernel_rfl) ?_;have AL:=ah xE (ag w8 (.cells iQ 51));have hsb:=heap_alloc_last w8 (.cells iQ 51);have QV:∀W,(w8.alloc (.cells iQ 51)).heap.size≤W.heap.size→(∀b,b≠w8.heap.size→W.heap[b]? =(w8.alloc (.cells iQ 51)).heap[b]?)→gW W W.heap.size s8 y.e.z:=fun W h1 h2=>(ha8.aQ (by rw [World.size_alloc] at h1;omega) fun b _ hb=>(h2 b (by omega)).trans (Below.heap_alloc w8 _ b hb)).at;have hsl:W6.heap.size≤w8.heap.size:=xE.size;refine hK.out _ _ (HS.out _ AL) (fun hH=>?_);clear hK K ha8 hb8 xE;generalize w8.alloc (.cells iQ 51)=w9 at AL hsb QV hH ⊢;obtain ⟨sb,hsb0⟩:∃b,w8.heap.size=b:=⟨_,rfl⟩;rw [hsb0] at hsb QV hsl;simp only [hsb0];clear hsb0;refine ax ?_;have hw9:(w9.setRow sb (aj y.e.z s8)).heap[sb]? =some (.cells (aj y.e.z s8) 51 (0,0)):=setRow_heap _ _ _ _ _ _ hsb;have yZ:Below W6.heap.size W6 (w9.setRow sb (aj y.e.z s8)):=below_setRow AL hsl _;have QU:gW (w9.setRow sb (aj y.e.z s8)) (w9.setRow sb (aj y.e.z s8)).heap.size s8 y.e.z:=QV _ (by simp [World.setRow]) fun b hb=>setRow_other _ _ b _ hb;refine kz (i:=12) (by decide+kernel) rfl (by rfl) _ _ _ rfl rfl sb (aj y.e.z s8) rfl rfl 51 iQ hsb (I4.out _) rfl (vw _ _) (HS.out _ yZ) (fun hH3=>?_);clear hH;have hH:=hH3;refine ax ?_;refine aK 13 (I 0) 17 hH (fun W hW=>?_) ?_
      ·go_simp
      refine ax ?_;clear hH hH3;refine wpAnyH_done (by decide+kernel) ?_ _;generalize w9.setRow sb (aj y.e.z s8)=OL at hw9 yZ QU ⊢;clear hsb QV AL;go_wp2_with fail;go_meet;exact ⟨sb,s8,rfl,rfl,hw9,yZ,QU⟩
     ·refine fQ (o:=⟨some 16, .alloc 51,_,_,_,none⟩) rfl 51 rfl iQ (by kernel_rfl) ?_;have xE:=ah HB.out.drew (ag wr.drew (.cells iQ 51));have hsb:=heap_alloc_last wr.drew (.cells iQ 51);refine hK.out _ _ (HS.out _ xE) (fun hH=>?_);clear hK K hH;refine ax ?_;refine wpAnyH_ready (rs:= [7]) (by decide+kernel) (by simp) ?_;refine AllReadyH.cons rfl (fun K hK=>?_) AllReadyH.nil;go_simp;go_at_call 12;refine (Ug.out _ xE).mono ?_;rintro e w9 ⟨s8,rfl,ha8,hb8⟩;have AL:=ah xE hb8;have QV:∀W,w9.heap.size≤W.heap.size→(∀b,b≠wr.heap.size→W.heap[b]? =w9.heap[b]?)→gW W W.heap.size s8 y.e.z:=fun W h1 h2=>(ha8.aQ h1 fun b hb1 hb2=>h2 b (by rw [World.size_alloc] at hb1;have h5:wr.drew.heap.size=wr.heap.size:=rfl;omega)).at;have Zd:=(hb8.block wr.heap.size (by simp)).trans hsb;refine hK.out _ _ (HS.out _ AL) (fun hH=>?_);clear hK K ha8 hb8 xE hsb;obtain ⟨sb,hsb0⟩:∃b,wr.heap.size=b:=⟨_,rfl⟩;have hsl:W6.heap.size≤sb:=by omega
      rw [hsb0] at Zd QV;have hsb:=Zd;simp only [hsb0];refine ax ?_;refine aK 8 (.tuple #[.agg (aj y.e.z s8),I 0]) 59 hH (fun W hW=>?_) ?_
      ·go_simp
      refine ax ?_;refine aK 9 (.agg (aj y.e.z s8)) 68 hH (fun W hW=>?_) ?_
      ·go_simp
      refine ax ?_;refine aK 10 (I 0) 69 hH (fun W hW=>?_) ?_
      ·go_simp
      refine ax ?_;clear Zd;refine ax ?_;have hw9:(w9.setRow sb (aj y.e.z s8)).heap[sb]? =some (.cells (aj y.e.z s8) 51 (0,0)):=setRow_heap _ _ _ _ _ _ hsb;have yZ:Below W6.heap.size W6 (w9.setRow sb (aj y.e.z s8)):=below_setRow AL hsl _;have QU:gW (w9.setRow sb (aj y.e.z s8)) (w9.setRow sb (aj y.e.z s8)).heap.size s8 y.e.z:=QV _ (by simp [World.setRow]) fun b hb=>setRow_other _ _ b _ hb;refine kz (i:=12) (by decide+kernel) rfl (by rfl) _ _ _ rfl rfl sb (aj y.e.z s8) rfl rfl 51 iQ hsb (I4.out _) rfl (vw _ _) (HS.out _ yZ) (fun hH3=>?_);clear hH;have hH:=hH3;refine ax ?_;refine aK 13 (I 0) 17 hH (fun W hW=>?_) ?_
      ·go_simp
      refine ax ?_;clear hH hH3;refine wpAnyH_done (by decide+kernel) ?_ _;generalize w9.setRow sb (aj y.e.z s8)=OL at hw9 yZ QU ⊢;clear hsb QV AL;go_wp2_with fail;go_meet;exact ⟨sb,s8,rfl,rfl,hw9,yZ,QU⟩
    case rest=>
     obtain ⟨sb,s8,rfl,rfl,hsb,hbc,hzc⟩:=hcut;have IZ:=ae (Row.lh hsb);have HBC:=ae hbc;have HZC:=ae hzc;obtain ⟨q1,q2,q3,q4⟩:=HS.out wc hbc;clear hsb hbc hzc ht3 hsz q1 q3;have S9:=ae q4;clear q4;have dF:=ae ((HYA.out.keep HBC.out).more HBC.out.size);go_upto_region 14 with ((with_reducible refine dI 51 ?_);go_must (refine aV rfl _ _ rfl sb rfl (aj y.e.z s8) IZ.out _ Tryz.underlying51 rfl (I4.out _) ?_));refine (O1.out wc s8 HZC.out).mono ?_;rintro e x1 ⟨rfl,b1⟩;have jf:=ae (ah HBC.out b1);have uI:=ae b1;have q5:=(HS.out x1 jf.out).2.1;have PM:=ae (HS.out x1 jf.out).2.2.2;have HZI':Hid (∀s,(Tryz.prog.info? 51).map (·.size)=some (aj y.e.z s).toList.length):=ae fun s=>by rw [Array.length_toList];exact I4.out s
     clear b1 q2;go_upto_region 15 with ((with_reducible refine dI 51 ?_);go_must (refine bC rfl _ _ rfl zb (zo+k*9+1) rfl (aj y.e.z y.s).toList PM.out _ Tryz.underlying51 rfl (HZI'.out _) ?_));refine (O1.out x1 y.s (dF.out.grow uI.out)).mono ?_;rintro e x2 ⟨rfl,b2⟩;have HC2:=ae (ah jf.out b2);have uJ:=ae (ah uI.out b2);clear b2 q5;go_upto_region 15 with fail;have HS2:Hid (∀W,Below x2.heap.size x2 W→Row W sb (aj y.e.z s8)∧W.cell? ⟨tb,3,none⟩=some (.slice (some ⟨zb,zo,none⟩) m z.c)∧W.rangeAt zb (zo+k*9+1) (aj y.e.z y.s).toList):=ae fun W hb=>by
      have h1:=HS.out W (ah HC2.out hb);exact ⟨IZ.out.keep (ah uJ.out hb),h1.2.1,h1.2.2.2⟩
     have hzi1:=I4.out s8;have hzi2:=HZI'.out y.s;refine wp_region_held_drew (S:=fun W=>Row W sb (aj y.e.z s8)∧W.cell? ⟨tb,3,none⟩=some (.slice (some ⟨zb,zo,none⟩) m z.c)∧W.rangeAt zb (zo+k*9+1) (aj y.e.z y.s).toList) (by kernel_rfl) (HS2.out _ (Below.refl _ x2).drew) (fun hH=>?_);refine mW 0 (.agg (aj y.e.z s8)) 88 rfl rfl hH (yieldsIf_load_mid (by rfl) _ _ rfl sb 0 rfl (aj y.e.z s8).toList _ (fun W hW j v hv=>by rw [Nat.zero_add,hW.1.2 j];simpa using hv) Tryz.underlying51 rfl (by rw [hzi1,Array.length_toList])) ?_;refine ax ?_;refine aK 1 (.pointer (some ⟨tb,3,none⟩)) 89 hH (fun W hW=>?_) ?_
     ·obtain ⟨_,h1,h2⟩:=hW;go_simp
     refine ax ?_;refine aK 2 (.slice (some ⟨zb,zo,none⟩) m z.c) 90 hH (fun W hW=>?_) ?_
     ·obtain ⟨_,h1,_⟩:=hW;go_simp
     refine ax ?_;refine aK 3 (I k) 91 hH (fun W hW=>?_) ?_
     ·obtain ⟨_,h1,h2⟩:=hW;go_simp
     refine ax ?_;refine aK 4 (.pointer (some ⟨zb,zo+k*9,none⟩)) 92 hH (fun W hW=>?_) ?_
     ·obtain ⟨_,h1,h2⟩:=hW;go_simp
     refine ax ?_;refine aK 5 (.pointer (some ⟨zb,zo+k*9+1,none⟩)) 93 hH (fun W hW=>?_) ?_
     ·obtain ⟨_,h1,h2⟩:=hW;go_simp
     refine ax ?_;refine mW 6 (.agg (aj y.e.z y.s)) 94 rfl rfl hH (yieldsIf_load_mid (by rfl) _ _ rfl zb (zo+k*9+1) rfl ((aj y.e.z y.s).toList) _ (fun _ hW=>hW.2.2) Tryz.underlying51 rfl hzi2) ?_;refine ax ?_;clear hH;refine wpAnyH_ready (rs:= [7]) (by decide+kernel) (by simp) ?_;refine AllReadyH.cons rfl (fun K hK=>?_) AllReadyH.nil;go_simp;go_at_call 14;refine (FI y.e.z s8 y.s x2.drew HGD.out.1 (HZC.out.grow (w':=x2.drew) uJ.out.drew) (dF.out.grow (w':=x2.drew) uJ.out.drew) HGD.out.2).mono ?_;rintro e x3 ⟨rfl,b3⟩;have b4:=ah (Below.refl x2.heap.size x2).drew b3;have oD:=ae (ah HC2.out b4);refine hK.out _ _ (HS2.out _ b4) (fun hH=>?_);clear hK K b3 b4;refine ax ?_;refine aK 8 (.tuple #[.bool true,I 0]) 87 hH (fun W hW=>?_) ?_
     ·go_simp
     refine ax ?_;refine aK 9 (.bool true) 96 hH (fun W hW=>?_) ?_
     ·go_simp
     refine ax ?_;refine aK 10 (I 0) 97 hH (fun W hW=>?_) ?_
     ·go_simp
     refine ax ?_;refine aK 11 (.bool true) 22 hH (fun W hW=>?_) ?_
     ·go_simp
     refine ax ?_;refine aK 12 (I 0) 23 hH (fun W hW=>?_) ?_
     ·go_simp
     refine ax ?_;clear hH hzi1 hzi2;refine wpAnyH_done (by decide+kernel) ?_ _;go_wp2_with fail;go_roundw
     case rel=>exact ⟨k+1,hlt,by go_num,oD.out⟩
     case measure=>simp [intOf];have:=hlt;omega
   ·have hkn:k=m:=by omega
    have hlt':¬(k:Int)<(m:Int):=by omega
    clear hlt;go_wp2_with fail;go_ret;exact ⟨rfl,HW6.out.trans (HB.out.mono HW6.out.size)⟩
end Go.Proofs.YtdibbemgpikgjaaGreat
