/- The texts Sf, Ra, Rb, in this order. -/
import Derived.Test.YtdibbemgpikgjaaGreatZ00
import Derived.Test.YtdibbemgpikgjaaGreatZ26
import Derived.Test.YtdibbemgpikgjaaGreatZ28
set_option maxRecDepth 10000
set_option maxHeartbeats 8000000
namespace Go.Proofs.YtdibbemgpikgjaaGreat
open Go Go.RowKit
attribute [local go_sem] eQ fA eU fC iZ ja eH eX eP eY
def TWhQ (M:Nat) (w:World) (rb tb:Nat) (t:Tb) (n:Nat) (R:List UInt8) (e:Ending) (w':World):Prop:=
 e= .returned (.tuple #[])∧∃A c ys,gB M w' rb R∧bU w rb tb 32 (ai {t with bK:=aO} (.slice A n c)) w'∧I8 w.heap.size w' (.slice A n c) ys∧ys.map (·.e)=t.aS
theorem RY (M:Nat) (w:World) (rb tb n:Nat) (t:Tb) (R:List UInt8) (h:P8 t) (hn:t.aS.length=n) (hr:gB M w rb (Bq t++R)) (hp:w.heap[tb]? =some (.cells (ai bQ (.slice none 0 0)) 32 (0,0))) (hM:M≤tb) (hne:tb≠rb):
  Calls Tryz.prog 23 #[.iface 109 (pt rb), .pointer (some ⟨tb,0,none⟩)] w (TWhQ M w rb tb t n R):=by
 have hel:tb<w.heap.size:=(aZ.1 hp).1;have hrw:=hr.lt;have hz:∀(u:Tb) (v:Value),u.prev.length=32→u.bK.length=32→(ai u v).size=68:=fun u v h1 h2=>bG u v h1 h2;have hr':gB M w.drew rb (le t.bz 1++(le t.version 1++(le t.aJ 1++(t.prev++((le n 1++Eg t.aS)++R))))):=by
  have h:=hr.drew;unfold Bq at h;rw [hn] at h;simpa only [List.append_assoc] using h
 have q1:=h.bz;have q2:=h.version;have q3:=h.aJ;have hn2:n≤128:=by have:=h.num;omega
 have jf:=ae (dD M w.drew rb tb 0 1 32 _ t.bz t.bz _ hr' (by omega) (jA _ (by omega) (by omega) _) hp (by rw [hz _ _ rfl rfl];decide) hM hne);have HF:=ae h;have HZ:=ae hz;have HN:=ae hn;clear h hr hr' hp hz hn;unfold TWhQ;go_enter Tryz.func23,Tryz.ntmps23;go_wp2_with fail;go_still_tail 7,(by kernel_rfl);go_wp2_with fail;refine jf.out.mono ?_;rintro e w1 ⟨rfl,hr1,hp1⟩;rw [qK] at hp1;have mY:=ae hp1.dB;have HC2:=ae (dD M w1.drew rb tb 1 1 32 _ t.version t.version _ hr1.drew (by omega) (jA _ (by omega) (by omega) _) hp1.tgt (by rw [HZ.out _ _ rfl rfl];decide) hM hne);clear hr1 hp1 jf;go_wp2_with fail;go_still_tail 7,(by kernel_rfl);go_wp2_with fail;refine HC2.out.mono ?_;rintro e w2 ⟨rfl,hr2,hp2⟩;rw [pO] at hp2;have HP2:=ae (mY.out.trans hp2.dB);have oD:=ae (dD M w2.drew rb tb 2 1 32 _ t.aJ t.aJ _ hr2.drew (by omega) (jA _ (by omega) (by omega) _) hp2.tgt (by rw [HZ.out _ _ rfl rfl];decide) hM hne);clear hr2 hp2 HC2;go_wp2_with fail;go_still_tail 7,(by kernel_rfl);go_wp2_with fail;refine oD.out.mono ?_;rintro e w3 ⟨rfl,hr3,hp3⟩;rw [nI] at hp3;have iV:=ae (HP2.out.trans hp3.dB);have oM:=ae (sK M w3.drew rb tb 4 32 _ t.prev _ hr3.drew HF.out.prev hp3.tgt (by rw [HZ.out _ _ rfl rfl];decide) hM hne);clear hr3 hp3 oD;go_wp2_with fail;go_still_tail 7,(by kernel_rfl);go_wp2_with fail;refine oM.out.mono ?_;rintro e w4 ⟨rfl,hr4,iT⟩;rw [uT _ _ _ rfl HF.out.prev] at iT;have qo:=ae (iV.out.trans iT.dB);have wW:=ae (RU M w4 rb tb 3 n 32 _ t.aS R HN.out hn2 (fun x hx=>⟨(HF.out.good x hx).1,HF.out.short x hx⟩) hr4 iT.tgt (bH _ _) hM hne);clear hr4 iT oM;go_wp2_with fail;refine wW.out.mono ?_;rintro e w5 ⟨rfl,A,c,ys,oL,vW,Xa,he5⟩;rw [kP] at vW;have oN:=ae oL;have Eo:=ae (qo.out.trans vW);have qQ:=ae (Xa.lower qo.out.size);have HE5:=ae he5;clear oL vW Xa he5 wW;go_wp2_with fail
 go_end0
 exact ⟨rfl,A,c,ys,oN.out,Eo.out,qQ.out,HE5.out⟩
def TrdQ (w:World) (t:Tb) (n:Nat) (e:Ending) (w':World):Prop:=
 ∃A c ys,e= .returned (.tuple #[.agg (ai {t with bK:=aO} (.slice A n c)), .bool true])∧I8 w.heap.size w' (.slice A n c) ys∧ys.map (·.e)=t.aS∧Below w.heap.size w w'
theorem Ky (w:World) (t:Tb) (n N b off c:Nat) (h:P8 t) (hn:t.aS.length=n) (hN:(Bq t).length=N) (hbl:b<w.heap.size) (hc1:N≤c) (hc2:c≤9223372036854775807)
  (hA:∀j,j<N→w.cell? ⟨b,off+j,none⟩=some (Extern.Stop.cell ((Bq t)[j]?.getD 0))):
  Calls Tryz.prog 20 #[.slice (some ⟨b,off,none⟩) N c] w (TrdQ w t n):=by
 have hmf:∀(fn:Fn) (first cap:Array Value) (w:World),(Instr.makeFunc fn first cap).run Tryz.prog w= .ok (.func fn first cap) w:=fun _ _ _ _=>rfl;have HF:=ae h;have dM:Hid (∀v,(Tryz.prog.info? 32).map (·.size)=some (ai {t with bK:=aO} v).size):=ae fun v=>cu _ v h.prev rfl;have HN:=ae hn;have zX:=ae hN;obtain ⟨W,hW⟩:∃W,((w.alloc (.cells (ai bQ (.slice none 0 0)) 32)).alloc (.cells #[.bool false] 4)).alloc (.cells #[.slice (some ⟨b,off,none⟩) N c] 110)=W:=⟨_,rfl⟩;have hB:Below w.heap.size w W:=by rw [←hW];exact (((Below.refl _ w).alloc (Nat.le_refl _) _).alloc (by simp) _).alloc (by simp;omega) _
 have hs:W.heap.size=w.heap.size+3:=by rw [←hW];simp
 have ht:W.heap[w.heap.size]? =some (.cells (ai bQ (.slice none 0 0)) 32 (0,0)):=by rw [←hW];exact (Below.heap_alloc _ _ _ (by simp;omega)).trans (heap_alloc2_old w _ _)
 have ho:W.heap[w.heap.size+1]? =some (.cells #[.bool false] 4 (0,0)):=by rw [←hW];exact (Below.heap_alloc _ _ _ (by simp)).trans (heap_alloc2_new w _ _)
 have hr:gB w.heap.size W (w.heap.size+2) (Bq t++ []):=by
  rw [List.append_nil];refine ⟨⟨b,off,c,?_,by rw [hN];exact hc1,hc2,hbl,fun j hj=>(hB.cell (p:=⟨b,off+j,none⟩) hbl).trans (hA j (by omega))⟩,by omega⟩;rw [←hW,hN];have:=heap_alloc_last ((w.alloc (.cells (ai bQ (.slice none 0 0)) 32)).alloc (.cells #[.bool false] 4)) (.cells #[.slice (some ⟨b,off,none⟩) N c] 110);simpa using this
 have HB:=ae hB;have HS:=ae hs;have HO:=ae ho;have HC:=ae (RY w.heap.size W (w.heap.size+2) w.heap.size n t [] h hn hr ht (Nat.le_refl _) (by omega));clear h hn hN hA hB hs ht ho hr
 go_enter_defers Tryz.func20,Tryz.ntmps20
 go_wp2_with fail;rw [jO,hW];refine HC.out.mono ?_;rintro e w2 ⟨rfl,A,cz,ys,hr2,hp2,hz2,he2⟩;have hs0:=HS.out;have ho2:w2.heap[w.heap.size+1]? =some (.cells #[.bool false] 4 (0,0)):=(hp2.block _ (by omega) (by omega) (by omega)).trans HO.out;have HB2:=ae (hp2.grown HB.out (Nat.le_refl _) (by omega) (by omega));have HV:=ae hp2.tgt;have HZ2:=ae (hz2.lower (lo':=w.heap.size+3) (by omega));have HRW:=ae (Row.lh hp2.tgt);have kW:=ae ho2;have HE2:=ae he2;have hlt2:w.heap.size+3≤w2.heap.size:=by have:=hp2.size;omega
 obtain ⟨bb,o2,c2,hq,_⟩:=hr2.at_;have hc2:w2.cell? ⟨w.heap.size+1+1,0,none⟩=some (.slice (some ⟨bb,o2,none⟩) 0 c2):=cell_of_row w2 (w.heap.size+2) 0 _ _ _ hq;clear hr2 hp2 hz2 he2 ho2 hW HC hq HO HB HS;go_wp2_with fail;refine wp_region_noPanic ?_;refine wp_region_held_drew (S:=fun W=>Row W w.heap.size (ai {t with bK:=aO} (.slice A n cz))∧W.cell? ⟨w.heap.size+1+1,0,none⟩=some (.slice (some ⟨bb,o2,none⟩) 0 c2)) (by kernel_rfl) ⟨⟨HRW.out.1,HRW.out.2⟩,hc2⟩ (fun hH=>?_);refine mW 0 _ 12 rfl rfl hH (yieldsIf_load_mid (by rfl) _ _ rfl w.heap.size 0 rfl (ai {t with bK:=aO} (.slice A n cz)).toList _ (fun W hW j v hv=>by rw [Nat.zero_add,hW.1.2 j];simpa using hv) Tryz.underlying32 rfl (by rw [dM.out,Array.length_toList])) ?_;refine ax ?_;refine zl 1 (pt (w.heap.size+1+1)) 13 rfl rfl hH (fun W hW=>by obtain ⟨_,hW2⟩:=hW;go_simp) ?_;refine ax ?_;refine zl 2 (pt (w.heap.size+1+1)) 14 rfl rfl hH (fun W hW=>by obtain ⟨_,hW2⟩:=hW;go_simp) ?_;refine ax ?_;refine zl 3 (pt (w.heap.size+1+1)) 15 rfl rfl hH (fun W hW=>by obtain ⟨_,hW2⟩:=hW;go_simp) ?_;refine ax ?_;refine zl 4 (.slice (some ⟨bb,o2,none⟩) 0 c2) 16 rfl rfl hH (fun W hW=>by obtain ⟨_,hW2⟩:=hW;go_simp) ?_;refine ax ?_;refine zl 5 (I 0) 17 rfl rfl hH (fun W hW=>by obtain ⟨_,hW2⟩:=hW;go_simp) ?_;refine ax ?_;refine zl 6 (.bool true) 18 rfl rfl hH (fun W hW=>by obtain ⟨_,hW2⟩:=hW;go_simp) ?_;refine ax ?_;have hv2:w2.drew.heap[w.heap.size]? =some (.cells (ai {t with bK:=aO} (.slice A n cz)) 32 (0,0)):=HV.out;have HW3:Hid ((w2.drew.setRow w.heap.size (ai {t with bK:=aO} (.slice A n cz))).heap[w.heap.size]? =some (.cells (ai {t with bK:=aO} (.slice A n cz)) 32 (0,0))):=ae (setRow_heap _ _ _ _ _ _ hv2);have kU:Hid (∀k,k≠w.heap.size→(w2.drew.setRow w.heap.size (ai {t with bK:=aO} (.slice A n cz))).heap[k]? =w2.heap[k]?):=ae fun k hk=>setRow_other _ _ k _ hk;have PD:Hid ((w2.drew.setRow w.heap.size (ai {t with bK:=aO} (.slice A n cz))).heap.size=w2.heap.size):=ae (by show (w2.setRow w.heap.size _).heap.size=_;simp [World.setRow]);have HD3:Hid ((w2.drew.setRow w.heap.size (ai {t with bK:=aO} (.slice A n cz))).os=w2.os∧(w2.drew.setRow w.heap.size (ai {t with bK:=aO} (.slice A n cz))).tape=w2.tape∧(w2.drew.setRow w.heap.size (ai {t with bK:=aO} (.slice A n cz))).output=w2.output):=ae ⟨rfl,rfl,rfl⟩;have hc3:(w2.drew.setRow w.heap.size (ai {t with bK:=aO} (.slice A n cz))).cell? ⟨w.heap.size+1+1,0,none⟩=some (.slice (some ⟨bb,o2,none⟩) 0 c2):=(World.cell?_of_block (a:=⟨w.heap.size+1+1,0,none⟩) (kU.out _ (by show w.heap.size+1+1≠w.heap.size;omega))).trans hc2;refine kz (i:=7) (by kernel_rfl) rfl (by rfl) _ _ _ rfl rfl w.heap.size (ai {t with bK:=aO} (.slice A n cz)) rfl rfl 32 (ai {t with bK:=aO} (.slice A n cz)) hv2 (dM.out _) rfl (bf _ _ _ _) ⟨Row.lh HW3.out,hc3⟩ (fun hH3=>?_);clear hH hH3;generalize w2.drew.setRow w.heap.size (ai {t with bK:=aO} (.slice A n cz))=w3 at HW3 kU PD HD3 hc3 ⊢;have ho3:w3.heap[w.heap.size+1]? =some (.cells #[.bool false] 4 (0,0)):=(kU.out _ (by omega)).trans kW.out;have hcc:=cell_of_row _ (w.heap.size+1) 0 _ _ _ ho3;have hfc:=frozen_of_row _ (w.heap.size+1) 0 _ _ ho3;have nK:=ae ho3;have hS4:Row (w3.setCell ⟨w.heap.size+1,0,none⟩ (.bool true)) w.heap.size (ai {t with bK:=aO} (.slice A n cz))∧(w3.setCell ⟨w.heap.size+1,0,none⟩ (.bool true)).cell? ⟨w.heap.size+1+1,0,none⟩=some (.slice (some ⟨bb,o2,none⟩) 0 c2):=
  ⟨Row.lh ((heap_setCell_other w3 _ w.heap.size _ (by show w.heap.size≠w.heap.size+1;omega)).trans HW3.out),(World.cell?_of_block (a:=⟨w.heap.size+1+1,0,none⟩) (heap_setCell_other w3 _ _ _ (by show w.heap.size+1+1≠w.heap.size+1;omega))).trans hc3⟩
 have yf:=ae hS4;clear hv2 ho3 hS4;refine bI 8 (fun K hK=>?_);go_simp;refine hK.out _ _ yf.out (fun hH4=>?_);refine wpAnyH_done (by kernel_rfl) ?_ _;refine NoPanic.normal ?_;clear hK K hH4;go_wp2_with fail;refine leaves_cons (f:=40) (args:= #[.pointer (some ⟨w.heap.size+1,0,none⟩)]) (by simp) (by simp [go_sem]) ?_;refine (yI _ _).mono ?_;rintro e u' OL ⟨rfl,rfl,rfl⟩;have hbl:∀k,k≠w.heap.size→k≠w.heap.size+1→(w3.setCell ⟨w.heap.size+1,0,none⟩ (.bool true)).heap[k]? =w2.heap[k]? :=fun k h1 h2=>
  (heap_setCell_other _ _ k _ h2).trans (kU.out k h1)
 have hsz:(w3.setCell ⟨w.heap.size+1,0,none⟩ (.bool true)).heap.size=w2.heap.size:=by rw [←PD.out];simp [World.setCell]
 have hv4:(w3.setCell ⟨w.heap.size+1,0,none⟩ (.bool true)).heap[w.heap.size]? =some (.cells (ai {t with bK:=aO} (.slice A n cz)) 32 (0,0)):=(heap_setCell_other w3 ⟨w.heap.size+1,0,none⟩ w.heap.size _ (by show w.heap.size≠w.heap.size+1;omega)).trans HW3.out;have hc4:=cell_of_row _ (w.heap.size+1) 0 _ _ _ (heap_setCell_same _ (w.heap.size+1) 0 _ _ (.bool true) nK.out);refine ⟨_,l9 rfl _ _ w.heap.size (w.heap.size+1) _ (ai {t with bK:=aO} (.slice A n cz)) (0,0) _ (.bool true) rfl hv4 Tryz.underlying32 rfl (dM.out _) rfl (gQ _ _ _ hc4),A,cz,ys,rfl,?_,HE2.out,?_⟩
 ·exact (HZ2.out.aQ (Nat.le_of_eq hsz.symm) fun k h1 h2=>hbl k (by omega) (by omega)).lower (by omega)
 ·exact HB2.out.trans ⟨HD3.out.1,HD3.out.2.1,HD3.out.2.2,Nat.le_of_eq hsz.symm,fun k hk=>hbl k (by omega) (by omega)⟩
def Yo (w:World) (t:Tb) (n:Nat) (e:Ending) (w':World):Prop:=
 ∃A c ys,e= .returned (.tuple #[.agg (ai {t with bK:=aO} (.slice A n c)),I 0])∧I8 w.heap.size w' (.slice A n c) ys∧ys.map (·.e)=t.aS∧Below w.heap.size w w'
theorem P8.Zp {t:Tb} (h:P8 t):P8 {t with bK:=aO}:=⟨h.bz,h.version,h.aJ,h.prev,rfl,h.first,h.num,h.good,h.short⟩
theorem Bl (w:World) (t:Tb) (n N b off c:Nat) (h:P8 t) (hn:t.aS.length=n) (hN:(Bq t).length=N) (hup:∀ys:List dm,ys.map (·.e)=t.aS→oO ys) (hbl:b<w.heap.size) (hc1:N≤c) (hc2:c≤9223372036854775807)
  (hA:∀j,j<N→w.cell? ⟨b,off+j,none⟩=some (Extern.Stop.cell ((Bq t)[j]?.getD 0))):
  Calls Tryz.prog 6 #[.slice (some ⟨b,off,none⟩) N c] w (Yo w t n):=by
 have HF:=ae h.Zp;have dM:Hid (∀v,(Tryz.prog.info? 32).map (·.size)=some (ai {t with bK:=aO} v).size):=ae fun v=>cu _ v h.prev rfl;have vM:Hid (∀v,(ai bQ (.slice none 0 0)).size=(ai {t with bK:=aO} v).size):=ae fun v=>by exact (bG bQ _ rfl rfl).trans (bG {t with bK:=aO} v h.prev rfl).symm
 have HN:=ae hn;have zX:=ae hN;have um:=ae hup;obtain ⟨W,hW⟩:∃W,w.alloc (.cells (ai bQ (.slice none 0 0)) 32)=W:=⟨_,rfl⟩;have hB:Below w.heap.size w W:=by rw [←hW];exact (Below.refl _ w).alloc (Nat.le_refl _) _
 have hs:W.heap.size=w.heap.size+1:=by rw [←hW];simp
 have ht:W.heap[w.heap.size]? =some (.cells (ai bQ (.slice none 0 0)) 32 (0,0)):=by rw [←hW];exact heap_alloc_last w _
 have HA:=ae hA;have HB:=ae hB;have HS:=ae hs;have HT:=ae ht;have HC:=ae (Ky W t n N b off c h hn hN (by omega) hc1 hc2 fun j hj=>(hB.cell (p:=⟨b,off+j,none⟩) hbl).trans (hA j hj));have yR:Hid (Bq {t with bK:=aO}=Bq t):=ae rfl;clear h hn hN hA hB hs ht hup;go_enter Tryz.func6,Tryz.ntmps6;go_wp2_with fail;rw [jO,hW];refine HC.out.mono ?_;rintro e w2 ⟨A,c2,ys,rfl,hz2,he2,hb2⟩;have hs0:=HS.out;have HZ2:=ae hz2;have HE2:=ae he2;have lN:=ae (ah HB.out hb2);have HT2:Hid (w2.heap[w.heap.size]? =some (.cells (ai bQ (.slice none 0 0)) 32 (0,0))):=ae ((hb2.block _ (by omega)).trans HT.out);have hl2:w.heap.size+1≤w2.heap.size:=by have:=hb2.size;omega
 clear hz2 he2 hb2 hW HC HB HS HT;go_wp2_with (first
  |(with_reducible refine bn 32 ?_;refine dh rfl _ rfl (ai bQ (.slice none 0 0)) jO ?_)
  |(with_reducible refine bT 32 ?_;refine dH rfl _ _ _ rfl (ai {t with bK:=aO} (.slice A n c2)) rfl rfl 32 (ai bQ (.slice none 0 0)) rfl (dM.out _) (vM.out _) (bf _ _ _ _) ?_;intro W3 hb3 hl3 hr3;have HB3:=ae hb3;have HR3:=ae hr3;have HZ3:=ae (HZ2.out.below hb3);clear hb3 hr3)
  |(with_reducible refine dI 32 ?_;refine aV rfl _ _ rfl w2.heap.size rfl (ai {t with bK:=aO} (.slice A n c2)) HR3.out _ Tryz.underlying32 rfl (dM.out _) ?_))
 refine (qW {t with bK:=aO} A n c2 ys W3 HF.out HE2.out.symm (by rw [←HN.out,←HE2.out,List.length_map]) HZ3.out.zes (um.out ys HE2.out)).mono ?_;rintro e w4 ⟨⟨g4,c4,rfl,yx⟩,hb4⟩;rw [yR.out,zX.out] at yx ⊢;have QI:=lN.out.trans (HB3.out.mono (by omega));have JE:=QI.trans (hb4.mono (by omega));have HB4:=ae JE;have HR4:Hid (Row w4 w2.heap.size (ai {t with bK:=aO} (.slice A n c2))):=ae (HR3.out.keep hb4);have Uc:Hid (I8 W.heap.size w4 (.slice A n c2) ys):=ae (HZ3.out.below hb4);have HT4:Hid (w4.heap[w.heap.size]? =some (.cells (ai bQ (.slice none 0 0)) 32 (0,0))):=ae ((hb4.block _ (by omega)).trans ((HB3.out.block _ (by omega)).trans HT2.out));have h1:BytesAt w4 w4.heap.size (some ⟨g4,0,none⟩) (Bq t):=by
  obtain ⟨A',c',hv,_,_,_,hy⟩:=yj (bs:=Bq t) (by rw [zX.out];exact yx);injection hv with e1 e2 e3;subst e1;exact hy
 have h2:BytesAt w4 w.heap.size (some ⟨b,off,none⟩) (Bq t):= .inr ⟨b,off,rfl,hbl,fun j hj=>(JE.cell (p:=⟨b,off+j,none⟩) hbl).trans (HA.out j (by have:=zX.out;omega))⟩;have HEQ:Hid (Calls Tryz.prog 21 #[.slice (some ⟨g4,0,none⟩) N c4, .slice (some ⟨b,off,none⟩) N c] w4 fun e w'=>e= .returned (.bool true)∧w'=w4):=ae (by
  have h:=rO w4 (some ⟨g4,0,none⟩) (some ⟨b,off,none⟩) (Bq t) (Bq t) c4 c _ _ h1 h2;rw [zX.out] at h;simpa using h)
 clear yx hb4 QI JE h1 h2 HB3 HR3 HZ3 HT2 HZ2 lN;go_wp2_with fail;refine HEQ.out.mono ?_;rintro e w5 ⟨rfl,rfl⟩;go_wp2_with (first
  |(with_reducible refine dI 32 ?_;refine aV rfl _ _ rfl w2.heap.size rfl (ai {t with bK:=aO} (.slice A n c2)) HR4.out _ Tryz.underlying32 rfl (dM.out _) ?_)
  |(with_reducible refine bT 32 ?_;refine wpList_store_row rfl _ _ _ rfl w.heap.size (ai {t with bK:=aO} (.slice A n c2)) rfl rfl 32 (ai bQ (.slice none 0 0)) HT4.out (dM.out _) (vM.out _) (bf _ _ _ _) ?_))
 refine bodyPost_ret (v:= .tuple #[.agg (ai {t with bK:=aO} (.slice A n c2)),I 0]) (bF rfl _ _ w.heap.size _ (ai {t with bK:=aO} (.slice A n c2)) (0,0) _ rfl (setRow_heap _ _ _ _ _ _ HT4.out) Tryz.underlying32 rfl (dM.out _) _ rfl) rfl ?_;refine ⟨A,c2,ys,rfl,(Uc.out.aQ ?_ fun k h1 h2=>setRow_other _ _ k _ (by omega)).lower (by omega),HE2.out,below_setRow HB4.out (Nat.le_refl _) _⟩;simp [World.setRow]
end Go.Proofs.YtdibbemgpikgjaaGreat
namespace Go.Proofs.YtdibbemgpikgjaaGreat
open Go Go.RowKit
def vN (W:World) (b off n:Nat) (ts:List Tr):Prop:=∀k,k<n→W.cell? ⟨b,off+k*2,none⟩=some (I (df ts k))∧W.cell? ⟨b,off+k*2+1,none⟩=some (I (fD ts k))
theorem vN.keep {W W':World} {b off n:Nat} {ts:List Tr} (h:vN W b off n ts) (hb:Below W.heap.size W W') (hlt:b<W.heap.size):vN W' b off n ts:=fun k hk=>
 ⟨(hb.cell (p:=⟨b,off+k*2,none⟩) hlt).trans (h k hk).1,(hb.cell (p:=⟨b,off+k*2+1,none⟩) hlt).trans (h k hk).2⟩
theorem vN.row {W:World} {b off n:Nat} {ts:List Tr} (h:vN W b off n ts) {k:Nat} (hk:k<n):W.rangeAt b (off+k*2) [I (df ts k),I (fD ts k)]:=fun j v hv=>by
 match j,hv with
 |0,hv=>exact (h k hk).1.trans hv
 |1,hv=>exact (h k hk).2.trans hv
 |j+2,hv=>simp at hv
theorem L8 (x o t:Int) (W:World):Calls Tryz.prog 81 #[.agg #[I x,I o],I t] W fun e w'=>e= .returned (I (Lib.compareInt x t))∧Below W.heap.size W w':=by
 have hcon:=fun W'=>Go.Proofs.AnyG.cmp_Compare_int cmpInt x t W';change∀W',Calls Tryz.prog 80 _ _ _ at hcon;have HC:=ae hcon;clear hcon;generalize Lib.compareInt x t=r at HC ⊢;go_enter Tryz.func81,Tryz.ntmps81;go_wp2_with fail;refine (HC.out _).mono ?_;rintro e w1 ⟨rfl,rfl⟩;go_wp2_with fail;go_ret;exact ⟨rfl,ag W _⟩
theorem UC (x t:Int):Lib.compareInt x t<0↔x<t:=by
 unfold Lib.compareInt;by_cases h1:x<t
 ·simp [h1]
 ·by_cases h2:t<x<;>simp [h1,h2]
theorem UB (x t:Int):Lib.compareInt x t=0↔x=t:=by
 unfold Lib.compareInt;by_cases h1:x<t
 ·simp [h1];omega
 ·by_cases h2:t<x
  ·simp [h1,h2];omega
  ·simp [h1,h2];omega
def BsP (w:World) (n:Nat) (ts:List Tr) (t:Int) (e:Ending) (w':World):Prop:=
 ∃(i:Nat) (fb:Bool),i≤n∧e= .returned (.tuple #[I (i:Nat), .bool fb])∧(fb=true↔(i<n∧df ts i=t))∧(∀j,j<i→df ts j<t)∧(∀j,i≤j→j<n→t≤df ts j)∧Below w.heap.size w w'
theorem yh (A:Option Addr) (b off n c:Nat) (ts:List Tr) (t:Int) (w:World) (_:ts.length=n) (hn:n≤100000) (hA:n=0∨(A=some ⟨b,off,none⟩∧b<w.heap.size∧vN w b off n ts)) (hs:∀i j,i<j→j<n→df ts i<df ts j):
  Calls Tryz.prog 82 #[.slice A n c,I t, .func (.func 81) #[] #[]] w (BsP w n ts t):=by
 have HA:=ae hA;have HS:=ae hs;have HTI:Hid ((Tryz.prog.info? 100).map (·.size)=some ([I 0,I 0]:List Value).length):=ae (by kernel_rfl);clear hA hs;go_enter Tryz.func82,Tryz.ntmps82;go_wp2_with fail
 go_loopw [9,10] (fun a1 a2 wr=>∃i j:Nat,i≤j∧j≤n∧a1=I (i:Nat)∧a2=I (j:Nat)∧(∀q,q<i→df ts q<t)∧(∀q,j≤q→q<n→t≤df ts q)∧Below w.heap.size w wr) (fun a1 a2 _=>((intOf a2) - (intOf a1)).toNat)
 case atStart=>exact ⟨0,n,Nat.zero_le _,Nat.le_refl _,rfl,rfl,fun _ h=>absurd h (Nat.not_lt_zero _),fun _ h1 h2=>absurd h1 (by omega),Below.refl _ _⟩
 case round=>
  obtain ⟨i,j,hij,hjn,rfl,rfl,hlo,hhi,hb⟩:=hrel;have HLO:=ae hlo;have HHI:=ae hhi;have HB:=ae hb;clear hlo hhi hb;by_cases hlt:i<j
  ·have i1:(i:Int)<(j:Int):=by omega
   obtain ⟨rfl,hbl,hta⟩:A=some ⟨b,off,none⟩∧b<w.heap.size∧vN w b off n ts:=by
    rcases HA.out with h|h
    ·omega
    ·exact h
   obtain ⟨h,hh⟩:∃h:Nat,(i+j) / 2=h:=⟨_,rfl⟩;have hhi':i≤h∧h<j:=by omega
   have hw1:IntKind.i64.wrap ((i:Int)+(j:Int))=(i:Int)+(j:Int):=by rw [IntKind.wrap_i64];omega
   have hhd:((i:Int)+(j:Int)) / 2=(h:Int):=by omega
   have hn1:(h:Int)<(n:Int):=by omega
   have hn0:(0:Int)≤(h:Int):=by omega
   go_upto_region 5 with fail;have HR:Hid (wr.rangeAt b (off+h*2) [I (df ts h),I (fD ts h)]):=ae (aU (hta.row (by omega)) HB.out hbl);obtain ⟨xa,hxa⟩:∃x,df ts h=x:=⟨_,rfl⟩;obtain ⟨xo,hxo⟩:∃x,fD ts h=x:=⟨_,rfl⟩;rw [hxa,hxo] at HR;have jg:=ae hxa;have HH:=ae hh;clear hta hxa hxo hw1 hhd hh;go_wp2_with ((with_reducible refine fO 100 ?_);go_must (refine bC rfl _ _ rfl b (off+h*2) rfl [I xa,I xo] HR.out _ Tryz.underlying100 rfl HTI.out ?_));refine (L8 xa xo t wr).mono ?_;obtain ⟨r,hr⟩:∃r,Lib.compareInt xa t=r:=⟨_,rfl⟩;have hlt':=UC xa t;rw [hr] at hlt' ⊢;rintro e w3 ⟨rfl,hb3⟩;have HB3:=ae (ah HB.out hb3);clear hb3 hr HR;by_cases hx:xa<t
   ·have hr0:=hlt'.2 hx;clear hlt';go_wp2_with fail;go_roundw
    case rel=>exact ⟨h+1,j,by omega,hjn,by go_num,rfl,fun q hq=>by
     by_cases hqh:q=h
     ·rw [hqh,jg.out];exact hx
     ·have:=HS.out q h (by omega) (by omega);have:=jg.out;omega,HHI.out,HB3.out⟩
    case measure=>simp [intOf];omega
   ·have hr0:¬r<0:=fun h=>hx (hlt'.1 h);clear hlt';go_wp2_with fail;go_roundw
    case rel=>exact ⟨i,h,by omega,by omega,rfl,rfl,HLO.out,fun q hq hqn=>by
     by_cases hqh:q=h
     ·rw [hqh,jg.out];omega
     ·have:=HS.out h q (by omega) hqn;have:=jg.out;omega,HB3.out⟩
    case measure=>simp [intOf];omega
  ·have i1:¬(i:Int)<(j:Int):=by omega
   obtain rfl:j=i:=by omega
   by_cases hin:j<n
   ·have j1:(j:Int)<(n:Int):=by omega
    have j0:(0:Int)≤(j:Int):=by omega
    obtain ⟨rfl,hbl,hta⟩:A=some ⟨b,off,none⟩∧b<w.heap.size∧vN w b off n ts:=by
     rcases HA.out with h|h
     ·omega
     ·exact h
    have HR:Hid (wr.rangeAt b (off+j*2) [I (df ts j),I (fD ts j)]):=ae (aU (hta.row hin) HB.out hbl);obtain ⟨xa,hxa⟩:∃x,df ts j=x:=⟨_,rfl⟩;obtain ⟨xo,hxo⟩:∃x,fD ts j=x:=⟨_,rfl⟩;rw [hxa,hxo] at HR;have jg:=ae hxa;clear hta hxa hxo;go_wp2_with ((with_reducible refine fO 100 ?_);go_must (refine bC rfl _ _ rfl b (off+j*2) rfl [I xa,I xo] HR.out _ Tryz.underlying100 rfl HTI.out ?_));refine (L8 xa xo t wr).mono ?_;obtain ⟨r,hr⟩:∃r,Lib.compareInt xa t=r:=⟨_,rfl⟩;have hlt':=UB xa t;rw [hr] at hlt' ⊢;rintro e w3 ⟨rfl,hb3⟩;have HB3:=ae (ah HB.out hb3);clear hb3 hr HR;by_cases hx:xa=t
    ·have hr0:=hlt'.2 hx;subst hr0;clear hlt';go_wp2_with fail;go_ret2;exact ⟨j,true,hjn,rfl,⟨fun _=>⟨hin,by rw [jg.out];exact hx⟩,fun _=>rfl⟩,HLO.out,HHI.out,HB3.out⟩
    ·have hr0:¬r=0:=fun h=>hx (hlt'.1 h);have hr1:(r==0)=false:=by simp [hr0]
     clear hlt';go_wp2_with fail;go_ret2;exact ⟨j,false,hjn,rfl,⟨fun h=>by simp at h,fun h=>absurd (jg.out▸h.2) hx⟩,HLO.out,HHI.out,HB3.out⟩
   ·have j1:¬(j:Int)<(n:Int):=by omega
    go_wp2_with fail;go_ret2;exact ⟨j,false,hjn,rfl,⟨fun h=>by simp at h,fun h=>absurd h.1 hin⟩,HLO.out,HHI.out,HB.out⟩
def Ve (ts:List Tr) (t:Int):Nat:=((List.range ts.length).find? (fun j=>decide (t≤df ts j))).getD ts.length
theorem ZC {ts:List Tr} {t:Int} {i n:Nat} (hl:ts.length=n) (hi:i≤n) (h1:∀j,j<i→df ts j<t) (h2:∀j,i≤j→j<n→t≤df ts j):Ve ts t=i:=by
 unfold Ve;rw [hl];rcases Nat.lt_or_ge i n with h|h
 ·have hf:(List.range n).find? (fun j=>decide (t≤df ts j))=some i:=by
   rw [List.find?_range_eq_some];refine ⟨decide_eq_true (h2 i (Nat.le_refl _) h),List.mem_range.2 h,fun j hj=>?_⟩;have:=h1 j hj;simp;omega
  rw [hf];rfl
 ·obtain rfl:i=n:=by omega
  have hf:(List.range i).find? (fun j=>decide (t≤df ts j))=none:=by
   rw [List.find?_eq_none];intro j hj;have:=h1 j (List.mem_range.1 hj);simp;omega
  rw [hf];rfl
def rY (ts:List Tr) (t:Int):Option Nat:=if Ve ts t<ts.length∧df ts (Ve ts t)=t then some (Ve ts t) else if Ve ts t=0 then none else some (Ve ts t - 1)
def TA (z:Zn) (t:Int):Option Tr:=
 if 0<(dP z).length∧df (dP z) 0≤t then
  match rY (dP z) (t - kQ (dP z) (dL z*1440) t*(dL z*1440)) with
  |some k=>if z.hor≤df (dP z) k+kQ (dP z) (dL z*1440) t*(dL z*1440) then some ⟨df (dP z) k+kQ (dP z) (dL z*1440) t*(dL z*1440),fD (dP z) k⟩ else none
  |none=>none
 else none
def RV (z:Zn) (t:Int):Option Tr:=(rY z.trans t).map fun k=>⟨df z.trans k,fD z.trans k⟩
def mO (z:Zn) (t:Int):Option Tr:=match TA z t with|some x=>some x|none=>RV z t
def offO (st:Int):Option Tr→Int|some x=>x.off|none=>st
def AZ (z:Zn) (t:Int):Int:=offO z.start (mO z t)
def trV:Option Tr→Array Value|some x=> #[I x.at_,I x.off]|none=> #[I 0,I 0]
theorem Hq {ts:List Tr} {n:Nat} (h:∀i,i+1<n→df ts i<df ts (i+1)):∀i j,i<j→j<n→df ts i<df ts j:=by
 intro i j hij
 induction j with
 |zero=>exact absurd hij (Nat.not_lt_zero _)
 |succ j ih=>
  intro hj;rcases Nat.lt_or_ge i j with h1|h1
  ·have:=ih h1 (by omega);have:=h j hj;omega
  ·obtain rfl:i=j:=by omega
   exact h i hj
theorem FH {z:Zn} (hg:iE (dP z) (dL z*1440)=true):∀i j,i<j→j<(dP z).length→df (dP z) i<df (dP z) j:=Hq fun i hi=>by
 have h:=vT hg i (by omega);unfold mJ at h;rw [if_pos hi] at h;omega
theorem MR {z:Zn} (hm:nO z):∀i j,i<j→j<z.trans.length→df z.trans i<df z.trans j:=Hq fun i hi=>by
 have:=hm.gap i hi;omega
end Go.Proofs.YtdibbemgpikgjaaGreat
