/- The texts Ug, Uh, Uk, in this order. -/
import Derived.Test.YtbaehbbonkljpaaGreatDoorS00
import Derived.Test.YtbaehbbonkljpaaGreatDoorS19
import Derived.Test.YtbaehbbonkljpaaGreatDoorS38
set_option maxRecDepth 10000
set_option maxHeartbeats 8000000
namespace Go.Proofs.YtbaehbbonkljpaaGreatDoor
open Go Go.RowKit
attribute [local go_sem] dI dM dJ dN fM fO dG dK dH dL jd je
theorem JY (w:World) (rb n:Nat) (A:Option Addr) (c:Nat) (h1:w.heap[rb]? =some (.cells #[.slice A 0 c] 135 (0,0))) (hn:0<n):
  Calls Tryz.prog 186 #[.pointer (some ⟨rb,0,none⟩),I n] w fun e w'=>e= .panicked nJ/\w'=w:=by
 have hc0:w.cell? ⟨rb,0,none⟩=some (.slice A 0 c):=cell_of_row w rb 0 _ _ _ h1;have n0:(0:Int)<(n:Int):=by omega
 clear h1;go_enter Tryz.func186,Tryz.ntmps186
 go_wp2
 exact ⟨rfl,rfl,rfl⟩
theorem CS (w:World) (rb pb po size:Nat) (t:TypeId) (cs:Array Value) (A:Option Addr) (c:Nat) (h1:w.heap[rb]? =some (.cells #[.slice A 0 c] 135 (0,0))) (hn:0<size) (hp:w.heap[pb]? =some (.cells cs t (0,0))) (hpo:po<cs.size) (hne:pb≠rb):
  Calls Tryz.prog 183 #[pt rb, .pointer (some ⟨pb,po,none⟩),I size] w (dD w rb pb t cs):=by
 refine (callsIn_wide (n:=3)).1 ?_;have hro:Fence.wide.round=none:=rfl;have h11:1<=3:=by omega
 have hlt:rb<w.heap.size:=(bV.1 h1).1;have hpl:pb<w.heap.size:=(bV.1 hp).1;have hc0:w.cell? ⟨pb,po,none⟩=some cs[po]:=by rw [cell_of_row w pb po _ _ _ hp];exact Array.getElem?_eq_getElem hpo
 have hf0:w.frozen? ⟨pb,po,none⟩=false:=frozen_of_row w pb po _ _ hp;obtain ⟨WS,hWS⟩:∃W,w.setCell ⟨pb,po,none⟩ (I 0)=W:=⟨_,rfl⟩;have zW:gB pb w WS:=by rw [<-hWS];exact ⟨rfl,rfl,rfl,by simp [World.setCell],fun k _ hk2=>heap_setCell_other _ _ k _ hk2⟩
 have htS:bH w rb pb t (cs.setIfInBounds po (I 0)) WS:=by rw [<-hWS];exact (bH.refl hp).put po (I 0)
 have hsS:pb<WS.heap.size:=by have:=zW.size;omega
 obtain ⟨W1,hW1⟩:∃W,WS.alloc (.cells #[.pointer (some ⟨pb,po,none⟩)] 125)=W:=⟨_,rfl⟩;have hk1:gB pb w W1:=by
  rw [<-hW1];exact ⟨zW.os,zW.tape,zW.output,Nat.le_trans zW.size (by simp),fun k hk hk2=>(Below.heap_alloc WS _ k (dP hk zW.size)).trans (zW.block k hk hk2)⟩
 have ht1:bH w rb pb t (cs.setIfInBounds po (I 0)) W1:=by rw [<-hW1];exact htS.grow (ag WS _) hsS hne
 rw [<-hWS] at hW1;have hr1:W1.heap[rb]? =some (.cells #[.slice A 0 c] 135 (0,0)):=(hk1.block rb hlt (fun e=>hne e.symm)).trans h1;have HT:=ae (JY W1 rb size A c hr1 hn);have jP:Hid (dD w rb pb t cs (.panicked nJ) W1):=ae ⟨rfl,_,(dO.refl cs).set rfl,ht1⟩;have HW1:=ae hW1;clear h1 hr1 hk1 zW hW1 hWS hp htS ht1 hsS;refine callsIn_of_wp_marks Tryz.func183 rfl trivial ?_ hro;simp only [Tryz.ntmps183,List.size_toArray,List.length_cons,List.length_nil,Nat.reduceAdd,Nat.reduceSub,Array.replicate_succ,Array.replicate_zero,List.push_toArray,List.append_toArray,List.nil_append,List.cons_append]
 gi_wp2_with first
  |(refine ⟨trivial,?_⟩;gi_at_call 186;rw [HW1.out];refine (callsIn_wide.2 HT.out).mono ?_;rintro e w2 ⟨rfl,rfl⟩)
 exact jP.out
theorem Em (w:World) (rb tb:Nat) (A:Option Addr) (c:Nat) (h1:w.heap[rb]? =some (.cells #[.slice A 0 c] 135 (0,0))) (hp:w.heap[tb]? =some (.cells (ai bu (.slice none 0 0)) 26 (0,0))) (hne:tb≠rb):
  Calls Tryz.prog 43 #[.iface 134 (pt rb), .pointer (some ⟨tb,0,none⟩)] w (dD w rb tb 26 (ai bu (.slice none 0 0))):=by
 have mG:=ae (CS w.drew rb tb 0 1 26 _ A c h1 (by omega) hp (by rw [bf _ _ rfl rfl];decide) hne);clear h1 hp;go_enter Tryz.func43,Tryz.ntmps43;go_wp2_with fail;go_still_tail 7,(by kernel_rfl);go_wp2_with fail;refine mG.out.mono ?_;rintro e w1 ⟨rfl,hd⟩;exact ⟨rfl,dD.bT ⟨rfl,hd⟩⟩
theorem Jm {B R:List UInt8} {t:Tb} (h:Ii B=some (t,R)):t.prev.length=32/\t.bP=fU:=by
 unfold Ii at h;simp only [Option.bind_eq_some_iff,Option.map_eq_some_iff] at h;obtain ⟨i,_,v,_,x,_,d,hd,z,_,he⟩:=h;unfold pD at hd;split at hd
 ·simp only [Option.some.injEq] at hd;simp only [Prod.mk.injEq] at he;rw [<-he.1];refine ⟨?_,rfl⟩;rw [<-hd];show (List.take 32 x.2).length=32;rw [List.length_take];omega
 ·cases hd
def TrdU (w:World) (B:List UInt8) (e:Ending) (w':World):Prop:=
 (∃t A c ys,Ii B=some (t,[])/\e= .returned (.tuple #[.agg (ai t (.slice A t.aF.length c)), .bool true])/\KI w.heap.size w' (.slice A t.aF.length c) ys/\ys.map (·.e)=t.aF/\Below w.heap.size w w')\/
 ((∀t,Ii B≠some (t,[]))/\∃C:Array Value,C.size=68/\C.all (·.oneCell')=true/\e= .returned (.tuple #[.agg C, .bool false])/\Below w.heap.size w w')
theorem QQ (w:World) (B:List UInt8) (A0:Option Addr) (N c:Nat) (hN:B.length=N) (hc1:N<=c) (hc2:c<=9223372036854775807) (hA:BytesAt w w.heap.size A0 B):
  Calls Tryz.prog 45 #[.slice A0 N c] w (TrdU w B):=by
 have hmf:∀(fn:Fn) (first cap:Array Value) (w:World),(Instr.makeFunc fn first cap).run Tryz.prog w= .ok (.func fn first cap) w:=fun _ _ _ _=>rfl;obtain ⟨W,hW⟩:∃W,((w.alloc (.cells (ai bu (.slice none 0 0)) 26)).alloc (.cells #[.bool false] 4)).alloc (.cells #[.slice A0 N c] 135)=W:=⟨_,rfl⟩;have hB:Below w.heap.size w W:=by rw [<-hW];exact (((Below.refl _ w).alloc (Nat.le_refl _) _).alloc (by simp) _).alloc (by simp;omega) _
 have hs:W.heap.size=w.heap.size+3:=by rw [<-hW];simp
 have ht:W.heap[w.heap.size]? =some (.cells (ai bu (.slice none 0 0)) 26 (0,0)):=by rw [<-hW];exact (Below.heap_alloc _ _ _ (by simp;omega)).trans (heap_alloc2_old w _ _)
 have ho:W.heap[w.heap.size+1]? =some (.cells #[.bool false] 4 (0,0)):=by rw [<-hW];exact (Below.heap_alloc _ _ _ (by simp)).trans (heap_alloc2_new w _ _)
 have hrc:W.heap[w.heap.size+2]? =some (.cells #[.slice A0 N c] 135 (0,0)):=by
  rw [<-hW];have:=heap_alloc_last ((w.alloc (.cells (ai bu (.slice none 0 0)) 26)).alloc (.cells #[.bool false] 4)) (.cells #[.slice A0 N c] 135);simpa using this
 have HC:Hid (Calls Tryz.prog 43 #[.iface 134 (pt (w.heap.size+2)), .pointer (some ⟨w.heap.size,0,none⟩)] W (cu (Ii B) (dD W (w.heap.size+2) w.heap.size 26 (ai bu (.slice none 0 0))) fun t R=>TWhQ w.heap.size W (w.heap.size+2) w.heap.size t t.aF.length R)):=ae (by
  by_cases h0:N=0
  ·subst h0;have hnil:B= []:=List.eq_nil_of_length_eq_zero hN;refine (Em W (w.heap.size+2) w.heap.size A0 c hrc ht (by omega)).mono fun e w' h=>cu.no ?_ h;rw [hnil];rfl
  ·rcases hA with hA|⟨b,off,rfl,hbl,hA⟩
   ·omega
   ·have hr:jO w.heap.size W (w.heap.size+2) B:=⟨⟨b,off,c,by rw [hN];exact hrc,by rw [hN];exact hc1,hc2,hbl,fun j hj=>(hB.cell (p:=⟨b,off+j,none⟩) hbl).trans (hA j hj)⟩,by omega⟩;exact Va w.heap.size W (w.heap.size+2) w.heap.size B hr ht (Nat.le_refl _) (by omega))
 have HB:=ae hB;have HS:=ae hs;have HO:=ae ho;clear hN hA hB hs ht ho hrc
 go_enter_defers Tryz.func45,Tryz.ntmps45
 go_wp2_with fail;rw [oN,hW];refine HC.out.mono ?_;intro e w2 h;rcases h.get with ⟨hq,hd⟩|⟨t,R,hq,rfl,A,cz,ys,hr2,hp2,hz2,he2⟩
 ·obtain ⟨rfl,C,hC,hp2⟩:=hd;have hs0:=HS.out;have ho2:w2.heap[w.heap.size+1]? =some (.cells #[.bool false] 4 (0,0)):=(hp2.block _ (by omega) (by omega) (by omega)).trans HO.out;have HB2:=ae (hp2.grown HB.out (Nat.le_refl _) (by omega) (by omega));refine leaves_cons (f:=66) (args:= #[.pointer (some ⟨w.heap.size+1,0,none⟩)]) (by simp) (by simp [go_sem]) ?_;refine (GV (w.heap.size+1) w2 (.bool false) ho2).mono ?_;rintro e u' w3 ⟨rfl,rfl,hk3,hq3⟩;have hv3:w3.heap[w.heap.size]? =some (.cells C 26 (0,0)):=(hk3.block _ (by have:=hp2.size;omega) (by omega)).trans hp2.tgt;have hc3:=cell_of_row _ (w.heap.size+1) 0 _ _ _ hq3;have hCs:C.size=68:=hC.1.trans (bf bu _ rfl rfl);refine ⟨_,ng rfl _ _ w.heap.size (w.heap.size+1) _ C (0,0) _ (.bool false) rfl hv3 Tryz.underlying26 rfl (by rw [hCs];exact (bD bu (.slice none 0 0) rfl rfl).trans (by rw [bf bu _ rfl rfl])) rfl (mY _ _ _ hc3), .inr ⟨(fun t h=>by rw [hq] at h;cases h),C,hCs,hC.2 (aT _ _ _ _),rfl,?_⟩⟩;have h1:=HB2.out;exact ⟨hk3.os.trans h1.os,hk3.tape.trans h1.tape,hk3.output.trans h1.output,Nat.le_trans h1.size hk3.size,fun k hk=>(hk3.block k (dP hk h1.size) (by omega)).trans (h1.block k hk)⟩
 have Jf:=Jm hq;have HPR:=ae Jf.1;have HMC:Hid (t.bP.length=32):=ae (by rw [Jf.2];rfl);have Qm:({t with bP:=fU}:Tb)=t:=by rw [<-Jf.2]
 rw [Qm] at hp2;have dU:Hid (∀v,(Tryz.prog.info? 26).map (·.size)=some (ai t v).size):=ae fun v=>bD _ v HPR.out HMC.out;have HPT:=ae hq;obtain ⟨n,hn⟩:∃n,t.aF.length=n:=⟨_,rfl⟩;rw [hn] at hp2 hz2;have HN:=ae hn;have hs0:=HS.out;have ho2:w2.heap[w.heap.size+1]? =some (.cells #[.bool false] 4 (0,0)):=(hp2.block _ (by omega) (by omega) (by omega)).trans HO.out;have HB2:=ae (hp2.grown HB.out (Nat.le_refl _) (by omega) (by omega));have HV:=ae hp2.tgt;have HZ2:=ae (hz2.lower (lo':=w.heap.size+3) (by omega));have HRW:=ae (Row.jH hp2.tgt);have rD:=ae ho2;have HE2:=ae he2;have hlt2:w.heap.size+3<=w2.heap.size:=by have:=hp2.size;omega
 obtain ⟨bb,o2,c2,hq2,_⟩:=hr2.at_;by_cases hR0:R= []
 ·have HRR:=ae hR0;subst hR0;have hc2:w2.cell? ⟨w.heap.size+1+1,0,none⟩=some (.slice (some ⟨bb,o2,none⟩) 0 c2):=cell_of_row w2 (w.heap.size+2) 0 _ _ _ hq2;clear hr2 hp2 hz2 he2 ho2 hW HC hq2 HO HB HS hn Jf Qm hq h;go_wp2_with fail;refine wp_region_noPanic ?_;refine wp_region_held_drew (S:=fun W=>Row W w.heap.size (ai t (.slice A n cz))/\W.cell? ⟨w.heap.size+1+1,0,none⟩=some (.slice (some ⟨bb,o2,none⟩) 0 c2)) (by kernel_rfl) ⟨⟨HRW.out.1,HRW.out.2⟩,hc2⟩ (fun hH=>?_);refine kY 0 _ 12 rfl rfl hH (yieldsIf_load_mid (by rfl) _ _ rfl w.heap.size 0 rfl (ai t (.slice A n cz)).toList _ (fun W hW j v hv=>by rw [Nat.zero_add,hW.1.2 j];simpa using hv) Tryz.underlying26 rfl (by rw [dU.out,Array.length_toList])) ?_;refine az ?_;refine iQ 1 (pt (w.heap.size+1+1)) 13 rfl rfl hH (fun W hW=>by obtain ⟨_,hW2⟩:=hW;go_simp) ?_;refine az ?_;refine iQ 2 (pt (w.heap.size+1+1)) 14 rfl rfl hH (fun W hW=>by obtain ⟨_,hW2⟩:=hW;go_simp) ?_;refine az ?_;refine iQ 3 (pt (w.heap.size+1+1)) 15 rfl rfl hH (fun W hW=>by obtain ⟨_,hW2⟩:=hW;go_simp) ?_;refine az ?_;refine iQ 4 (.slice (some ⟨bb,o2,none⟩) 0 c2) 16 rfl rfl hH (fun W hW=>by obtain ⟨_,hW2⟩:=hW;go_simp) ?_;refine az ?_;refine iQ 5 (I 0) 17 rfl rfl hH (fun W hW=>by obtain ⟨_,hW2⟩:=hW;go_simp) ?_;refine az ?_;refine iQ 6 (.bool true) 18 rfl rfl hH (fun W hW=>by obtain ⟨_,hW2⟩:=hW;go_simp) ?_;refine az ?_;have hv2:w2.drew.heap[w.heap.size]? =some (.cells (ai t (.slice A n cz)) 26 (0,0)):=HV.out;have HW3:Hid ((w2.drew.setRow w.heap.size (ai t (.slice A n cz))).heap[w.heap.size]? =some (.cells (ai t (.slice A n cz)) 26 (0,0))):=ae (setRow_heap _ _ _ _ _ _ hv2);have nC:Hid (∀k,k≠w.heap.size->(w2.drew.setRow w.heap.size (ai t (.slice A n cz))).heap[k]? =w2.heap[k]?):=ae fun k hk=>setRow_other _ _ k _ hk;have FK:Hid ((w2.drew.setRow w.heap.size (ai t (.slice A n cz))).heap.size=w2.heap.size):=ae (by show (w2.setRow w.heap.size _).heap.size=_;simp [World.setRow]);have HD3:Hid ((w2.drew.setRow w.heap.size (ai t (.slice A n cz))).os=w2.os/\(w2.drew.setRow w.heap.size (ai t (.slice A n cz))).tape=w2.tape/\(w2.drew.setRow w.heap.size (ai t (.slice A n cz))).output=w2.output):=ae ⟨rfl,rfl,rfl⟩;have hc3:(w2.drew.setRow w.heap.size (ai t (.slice A n cz))).cell? ⟨w.heap.size+1+1,0,none⟩=some (.slice (some ⟨bb,o2,none⟩) 0 c2):=(World.cell?_of_block (a:=⟨w.heap.size+1+1,0,none⟩) (nC.out _ (by show w.heap.size+1+1≠w.heap.size;omega))).trans hc2;refine sN (i:=7) (by kernel_rfl) rfl (by rfl) _ _ _ rfl rfl w.heap.size (ai t (.slice A n cz)) rfl rfl 26 (ai t (.slice A n cz)) hv2 (dU.out _) rfl (aT _ _ _ _) ⟨Row.jH HW3.out,hc3⟩ (fun hH3=>?_);clear hH hH3;generalize w2.drew.setRow w.heap.size (ai t (.slice A n cz))=w3 at HW3 nC FK HD3 hc3 ⊢;have ho3:w3.heap[w.heap.size+1]? =some (.cells #[.bool false] 4 (0,0)):=(nC.out _ (by omega)).trans rD.out;have hcc:=cell_of_row _ (w.heap.size+1) 0 _ _ _ ho3;have hfc:=frozen_of_row _ (w.heap.size+1) 0 _ _ ho3;have tX:=ae ho3;have hS4:Row (w3.setCell ⟨w.heap.size+1,0,none⟩ (.bool true)) w.heap.size (ai t (.slice A n cz))/\(w3.setCell ⟨w.heap.size+1,0,none⟩ (.bool true)).cell? ⟨w.heap.size+1+1,0,none⟩=some (.slice (some ⟨bb,o2,none⟩) 0 c2):=
   ⟨Row.jH ((heap_setCell_other w3 _ w.heap.size _ (by show w.heap.size≠w.heap.size+1;omega)).trans HW3.out),(World.cell?_of_block (a:=⟨w.heap.size+1+1,0,none⟩) (heap_setCell_other w3 _ _ _ (by show w.heap.size+1+1≠w.heap.size+1;omega))).trans hc3⟩
  have DT:=ae hS4;clear hv2 ho3 hS4;refine aY 8 (fun K hK=>?_);go_simp;refine hK.out _ _ DT.out (fun hH4=>?_);refine wpAnyH_done (by kernel_rfl) ?_ _;refine NoPanic.normal ?_;clear hK K hH4;go_wp2_with fail;refine leaves_cons (f:=66) (args:= #[.pointer (some ⟨w.heap.size+1,0,none⟩)]) (by simp) (by simp [go_sem]) ?_;refine (zD _ _).mono ?_;rintro e u' Vm ⟨rfl,rfl,rfl⟩;have hbl:∀k,k≠w.heap.size->k≠w.heap.size+1->(w3.setCell ⟨w.heap.size+1,0,none⟩ (.bool true)).heap[k]? =w2.heap[k]? :=fun k h1 h2=>
   (heap_setCell_other _ _ k _ h2).trans (nC.out k h1)
  have hsz:(w3.setCell ⟨w.heap.size+1,0,none⟩ (.bool true)).heap.size=w2.heap.size:=by rw [<-FK.out];simp [World.setCell]
  have hv4:(w3.setCell ⟨w.heap.size+1,0,none⟩ (.bool true)).heap[w.heap.size]? =some (.cells (ai t (.slice A n cz)) 26 (0,0)):=(heap_setCell_other w3 ⟨w.heap.size+1,0,none⟩ w.heap.size _ (by show w.heap.size≠w.heap.size+1;omega)).trans HW3.out;have hc4:=cell_of_row _ (w.heap.size+1) 0 _ _ _ (heap_setCell_same _ (w.heap.size+1) 0 _ _ (.bool true) tX.out);have hlow:Below w.heap.size w (w3.setCell ⟨w.heap.size+1,0,none⟩ (.bool true)):=HB2.out.trans ⟨HD3.out.1,HD3.out.2.1,HD3.out.2.2,Nat.le_of_eq hsz.symm,fun k hk=>hbl k (by omega) (by omega)⟩;refine ⟨_,ng rfl _ _ w.heap.size (w.heap.size+1) _ (ai t (.slice A n cz)) (0,0) _ (.bool true) rfl hv4 Tryz.underlying26 rfl (dU.out _) rfl (mY _ _ _ hc4),?_⟩;refine .inl ⟨t,A,cz,ys,HPT.out,by rw [HN.out],?_,HE2.out,hlow⟩;rw [HN.out];exact (HZ2.out.aK (Nat.le_of_eq hsz.symm) fun k h1 h2=>hbl k (by omega) (by omega)).lower (by omega)
 ·have HRR:=ae hR0;obtain ⟨L,hL⟩:∃L,R.length=L:=⟨_,rfl⟩;rw [hL] at hq2;have hL0:L≠0:=by
   intro h0;rw [h0] at hL;exact hR0 (List.eq_nil_of_length_eq_zero hL)
  have hL1:¬L=0:=hL0;have hL2:(L==0)=false:=by simp [hL0]
  have hL3:((L:Int)==0)=false:=by simp;omega
  have hc2:w2.cell? ⟨w.heap.size+1+1,0,none⟩=some (.slice (some ⟨bb,o2,none⟩) L c2):=cell_of_row w2 (w.heap.size+2) 0 _ _ _ hq2;clear hr2 hp2 hz2 he2 ho2 hW HC hq2 HO HB HS hn Jf Qm hq h hL hR0;go_wp2_with fail;refine wp_region_noPanic ?_;refine wp_region_held_drew (S:=fun W=>Row W w.heap.size (ai t (.slice A n cz))/\W.cell? ⟨w.heap.size+1+1,0,none⟩=some (.slice (some ⟨bb,o2,none⟩) L c2)) (by kernel_rfl) ⟨⟨HRW.out.1,HRW.out.2⟩,hc2⟩ (fun hH=>?_);refine kY 0 _ 12 rfl rfl hH (yieldsIf_load_mid (by rfl) _ _ rfl w.heap.size 0 rfl (ai t (.slice A n cz)).toList _ (fun W hW j v hv=>by rw [Nat.zero_add,hW.1.2 j];simpa using hv) Tryz.underlying26 rfl (by rw [dU.out,Array.length_toList])) ?_;refine az ?_;refine iQ 1 (pt (w.heap.size+1+1)) 13 rfl rfl hH (fun W hW=>by obtain ⟨_,hW2⟩:=hW;go_simp) ?_;refine az ?_;refine iQ 2 (pt (w.heap.size+1+1)) 14 rfl rfl hH (fun W hW=>by obtain ⟨_,hW2⟩:=hW;go_simp) ?_;refine az ?_;refine iQ 3 (pt (w.heap.size+1+1)) 15 rfl rfl hH (fun W hW=>by obtain ⟨_,hW2⟩:=hW;go_simp) ?_;refine az ?_;refine iQ 4 (.slice (some ⟨bb,o2,none⟩) L c2) 16 rfl rfl hH (fun W hW=>by obtain ⟨_,hW2⟩:=hW;go_simp) ?_;refine az ?_;refine iQ 5 (I (L:Nat)) 17 rfl rfl hH (fun W hW=>by obtain ⟨_,hW2⟩:=hW;go_simp) ?_;refine az ?_;refine iQ 6 (.bool false) 18 rfl rfl hH (fun W hW=>by obtain ⟨_,hW2⟩:=hW;go_simp) ?_;refine az ?_;have hv2:w2.drew.heap[w.heap.size]? =some (.cells (ai t (.slice A n cz)) 26 (0,0)):=HV.out;have HW3:Hid ((w2.drew.setRow w.heap.size (ai t (.slice A n cz))).heap[w.heap.size]? =some (.cells (ai t (.slice A n cz)) 26 (0,0))):=ae (setRow_heap _ _ _ _ _ _ hv2);have nC:Hid (∀k,k≠w.heap.size->(w2.drew.setRow w.heap.size (ai t (.slice A n cz))).heap[k]? =w2.heap[k]?):=ae fun k hk=>setRow_other _ _ k _ hk;have FK:Hid ((w2.drew.setRow w.heap.size (ai t (.slice A n cz))).heap.size=w2.heap.size):=ae (by show (w2.setRow w.heap.size _).heap.size=_;simp [World.setRow]);have HD3:Hid ((w2.drew.setRow w.heap.size (ai t (.slice A n cz))).os=w2.os/\(w2.drew.setRow w.heap.size (ai t (.slice A n cz))).tape=w2.tape/\(w2.drew.setRow w.heap.size (ai t (.slice A n cz))).output=w2.output):=ae ⟨rfl,rfl,rfl⟩;have hc3:(w2.drew.setRow w.heap.size (ai t (.slice A n cz))).cell? ⟨w.heap.size+1+1,0,none⟩=some (.slice (some ⟨bb,o2,none⟩) L c2):=(World.cell?_of_block (a:=⟨w.heap.size+1+1,0,none⟩) (nC.out _ (by show w.heap.size+1+1≠w.heap.size;omega))).trans hc2;refine sN (i:=7) (by kernel_rfl) rfl (by rfl) _ _ _ rfl rfl w.heap.size (ai t (.slice A n cz)) rfl rfl 26 (ai t (.slice A n cz)) hv2 (dU.out _) rfl (aT _ _ _ _) ⟨Row.jH HW3.out,hc3⟩ (fun hH3=>?_);clear hH hH3;generalize w2.drew.setRow w.heap.size (ai t (.slice A n cz))=w3 at HW3 nC FK HD3 hc3 ⊢;have ho3:w3.heap[w.heap.size+1]? =some (.cells #[.bool false] 4 (0,0)):=(nC.out _ (by omega)).trans rD.out;have hcc:=cell_of_row _ (w.heap.size+1) 0 _ _ _ ho3;have hfc:=frozen_of_row _ (w.heap.size+1) 0 _ _ ho3;have tX:=ae ho3;have hS4:Row (w3.setCell ⟨w.heap.size+1,0,none⟩ (.bool false)) w.heap.size (ai t (.slice A n cz))/\(w3.setCell ⟨w.heap.size+1,0,none⟩ (.bool false)).cell? ⟨w.heap.size+1+1,0,none⟩=some (.slice (some ⟨bb,o2,none⟩) L c2):=
   ⟨Row.jH ((heap_setCell_other w3 _ w.heap.size _ (by show w.heap.size≠w.heap.size+1;omega)).trans HW3.out),(World.cell?_of_block (a:=⟨w.heap.size+1+1,0,none⟩) (heap_setCell_other w3 _ _ _ (by show w.heap.size+1+1≠w.heap.size+1;omega))).trans hc3⟩
  have DT:=ae hS4;clear hv2 ho3 hS4;refine aY 8 (fun K hK=>?_);go_simp;refine hK.out _ _ DT.out (fun hH4=>?_);refine wpAnyH_done (by kernel_rfl) ?_ _;refine NoPanic.normal ?_;clear hK K hH4;go_wp2_with fail;refine leaves_cons (f:=66) (args:= #[.pointer (some ⟨w.heap.size+1,0,none⟩)]) (by simp) (by simp [go_sem]) ?_;refine (zD _ _).mono ?_;rintro e u' Vm ⟨rfl,rfl,rfl⟩;have hbl:∀k,k≠w.heap.size->k≠w.heap.size+1->(w3.setCell ⟨w.heap.size+1,0,none⟩ (.bool false)).heap[k]? =w2.heap[k]? :=fun k h1 h2=>
   (heap_setCell_other _ _ k _ h2).trans (nC.out k h1)
  have hsz:(w3.setCell ⟨w.heap.size+1,0,none⟩ (.bool false)).heap.size=w2.heap.size:=by rw [<-FK.out];simp [World.setCell]
  have hv4:(w3.setCell ⟨w.heap.size+1,0,none⟩ (.bool false)).heap[w.heap.size]? =some (.cells (ai t (.slice A n cz)) 26 (0,0)):=(heap_setCell_other w3 ⟨w.heap.size+1,0,none⟩ w.heap.size _ (by show w.heap.size≠w.heap.size+1;omega)).trans HW3.out;have hc4:=cell_of_row _ (w.heap.size+1) 0 _ _ _ (heap_setCell_same _ (w.heap.size+1) 0 _ _ (.bool false) tX.out);have hlow:Below w.heap.size w (w3.setCell ⟨w.heap.size+1,0,none⟩ (.bool false)):=HB2.out.trans ⟨HD3.out.1,HD3.out.2.1,HD3.out.2.2,Nat.le_of_eq hsz.symm,fun k hk=>hbl k (by omega) (by omega)⟩;refine ⟨_,ng rfl _ _ w.heap.size (w.heap.size+1) _ (ai t (.slice A n cz)) (0,0) _ (.bool false) rfl hv4 Tryz.underlying26 rfl (dU.out _) rfl (mY _ _ _ hc4),?_⟩;refine .inr ⟨fun t' ht=>?_,(ai t (.slice A n cz)),?_,aT _ _ _ _,rfl,hlow⟩
  ·rw [HPT.out] at ht;injection ht with ht;injection ht with _ ht;exact HRR.out ht
  ·have h:=dU.out (.slice A n cz);exact bf t _ HPR.out HMC.out
end Go.Proofs.YtbaehbbonkljpaaGreatDoor
namespace Go.Proofs.YtbaehbbonkljpaaGreatDoor
open Go Go.RowKit
attribute [local go_sem] dI dM dJ dN fM fO dG dK dH dL jd je
def yz (B:List UInt8):Option Tb:=
 match Ii B with
 |some (t,[])=>if mg t=0/\lJ t=B then some t else none
 |_=>none
theorem IL {B:List UInt8} {t:Tb} (h:Ii B=some (t,[])) (h1:mg t=0) (h2:lJ t=B):yz B=some t:=by
 unfold yz;rw [h];simp only;rw [if_pos ⟨h1,h2⟩]
theorem Ol {B:List UInt8} {t:Tb} (h:Ii B=some (t,[])) (h1:¬(mg t=0/\lJ t=B)):yz B=none:=by
 unfold yz;rw [h];simp only;rw [if_neg h1]
theorem EK {B:List UInt8} (h:∀t,Ii B≠some (t,[])):yz B=none:=by
 unfold yz;split
 ·rename_i t he;exact absurd he (h t)
 ·rfl
def ReadU (w:World) (B:List UInt8) (e:Ending) (w':World):Prop:=
 (∃t A c ys,yz B=some t/\e= .returned (.tuple #[.agg (ai t (.slice A t.aF.length c)),I 0])/\KI w.heap.size w' (.slice A t.aF.length c) ys/\ys.map (·.e)=t.aF/\Below w.heap.size w w')\/
 (yz B=none/\e= .returned (.tuple #[.agg (ai bu (.slice none 0 0)),I 3])/\Below w.heap.size w w')
theorem wC (w:World) (B:List UInt8) (A0:Option Addr) (N c:Nat) (hN:B.length=N) (hc1:N<=c) (hc2:c<=9223372036854775807) (hA:BytesAt w w.heap.size A0 B):
  Calls Tryz.prog 24 #[.slice A0 N c] w (ReadU w B):=by
 have Xn:Hid ((Tryz.prog.info? 26).map (·.size)=some (ai bu (.slice none 0 0)).size):=ae (bD bu _ rfl rfl);have KT:=ae hN;have HBA:=ae hA;have yt:=ae (AV.new w (ai bu (.slice none 0 0)) 26);have HB0:=ae (ag w (.cells (ai bu (.slice none 0 0)) 26));have HC:=ae (fun (W:World) (hb:Below w.heap.size w W)=>QQ W B A0 N c hN hc1 hc2 ((hA.keep hb).more hb.size));clear hN hA;go_enter Tryz.func24,Tryz.ntmps24;go_upto_region 1 with ((with_reducible refine aZ 26 ?_);go_must (refine aG rfl _ rfl (ai bu (.slice none 0 0)) ed ?_));go_wp2_with fail;refine (HC.out _ HB0.out).mono ?_;intro e w2 h;rcases h with ⟨t,A,cz,ys,hpt,rfl,hz2,he2,hb2⟩|⟨hpt,C,hCs,hCo,rfl,hb2⟩
 ·obtain ⟨hpr,Qm⟩:=Jm hpt;have hml:t.bP.length=32:=by rw [Qm];rfl
  have dU:Hid (∀v,(Tryz.prog.info? 26).map (·.size)=some (ai t v).size):=ae fun v=>bD _ v hpr hml;have tN:Hid (∀v,(ai bu (.slice none 0 0)).size=(ai t v).size):=ae fun v=>by exact (bf bu _ rfl rfl).trans (bf t v hpr hml).symm
  have HPT:=ae hpt;have HR2:=ae (yt.out.below hb2);have HB2:=ae (ah HB0.out hb2);obtain ⟨n,hn⟩:∃n,t.aF.length=n:=⟨_,rfl⟩;rw [hn] at hz2 ⊢;have HZ2:=ae hz2;have HE2:=ae he2;have HN:=ae hn;have hyl:ys.length=n:=by have:=congrArg List.length he2;simpa [hn] using this
  have IA:=ae (fun (W:World) (hb:Below w2.heap.size w2 W)=>uG t A n cz ys W hpr hml he2.symm hyl (hz2.below hb).zes);have hl2:w.heap.size<w2.heap.size:=HR2.out.lt;clear hz2 he2 hb2 HC HB0 yt hn hyl hpt hpr hml Qm;go_wp2_with (first
   |(with_reducible refine aZ 26 ?_;refine dm rfl _ rfl (ai bu (.slice none 0 0)) oN ?_)
   |(with_reducible refine bY 26 ?_;refine fQ rfl _ _ _ rfl (ai t (.slice A n cz)) rfl rfl 26 (ai bu (.slice none 0 0)) rfl (dU.out _) (tN.out _) (aT _ _ _ _) ?_;intro W3 hb3 hl3 hr3;have HB3:=ae hb3;have HR3:=ae hr3;have HZ3:=ae (HZ2.out.below hb3);have tY:=ae (HR2.out.below hb3);clear hb3 hr3)
   |(with_reducible refine dY 26 ?_;refine aJ rfl _ _ rfl w2.heap.size rfl (ai t (.slice A n cz)) HR3.out _ Tryz.underlying26 rfl (dU.out _) ?_))
  refine (IA.out W3 HB3.out).mono ?_;rintro e w4 (⟨hv0,⟨g4,c4,rfl,Ua⟩,hb4⟩|⟨hv0,rfl,hb4⟩)
  ·have hb3w:=HB2.out.trans (HB3.out.mono (by omega));have hb4w:=hb3w.trans (hb4.mono (by omega));have HB4:=ae hb4w;have HR4:Hid (Row w4 w2.heap.size (ai t (.slice A n cz))):=ae (HR3.out.keep hb4);have Bh:Hid (KI (w.heap.size+1) w4 (.slice A n cz) ys):=ae ((HZ3.out.below hb4).lower (by simp));have DV:=ae (tY.out.below hb4);have h1:BytesAt w4 w4.heap.size (some ⟨g4,0,none⟩) (lJ t):=by
    obtain ⟨A',c',hv,_,_,_,hy⟩:=IW (bs:=lJ t) Ua;injection hv with e1 e2 e3;subst e1;exact hy
   have h2:BytesAt w4 w.heap.size A0 B:=HBA.out.keep hb4w;have vF:=ae (BH w4 (some ⟨g4,0,none⟩) A0 (lJ t) B c4 c _ _ h1 h2);rw [KT.out] at vF;obtain ⟨M,hM⟩:∃M,(lJ t).length=M:=⟨_,rfl⟩;rw [hM] at vF ⊢;obtain ⟨eq,heq⟩:∃b,decide (lJ t=B)=b:=⟨_,rfl⟩;have hbe:(lJ t==B)=eq:=by rw [<-heq];by_cases h:lJ t=B<;>simp [h]
   rw [hbe] at vF;have HEB:=ae heq;have HV0':=ae hv0;clear Ua hb4 hb3w hb4w h1 h2 HB3 HR3 HZ3 HR2 HZ2 HB2 IA tY hM heq hv0 hbe;go_wp2_with fail;refine vF.out.mono ?_;rintro e w5 ⟨rfl,rfl⟩;cases eq with
   |true=>
    go_wp2_with (first
     |(with_reducible refine dY 26 ?_;refine aJ rfl _ _ rfl w2.heap.size rfl (ai t (.slice A n cz)) HR4.out _ Tryz.underlying26 rfl (dU.out _) ?_)
     |(with_reducible refine bY 26 ?_;refine wpList_store_row rfl _ _ _ rfl w.heap.size (ai t (.slice A n cz)) rfl rfl 26 (ai bu (.slice none 0 0)) DV.out.var (dU.out _) (tN.out _) (aT _ _ _ _) ?_))
    refine bodyPost_ret (v:= .tuple #[.agg (ai t (.slice A n cz)),I 0]) (aV rfl _ _ w.heap.size _ (ai t (.slice A n cz)) (0,0) _ rfl (setRow_heap _ _ _ _ _ _ DV.out.var) Tryz.underlying26 rfl (dU.out _) _ rfl) rfl ?_;refine .inl ⟨t,A,cz,ys,IL HPT.out HV0'.out (of_decide_eq_true HEB.out),by rw [HN.out],?_,HE2.out,aB HB4.out (Nat.le_refl _) _⟩;rw [HN.out];refine (Bh.out.aK ?_ fun k h1 h2=>setRow_other _ _ k _ (by omega)).lower (by omega);simp [World.setRow]
   |false=>
    have Zj:Hid (yz B=none):=ae (Ol HPT.out fun h=>absurd h.2 (of_decide_eq_false HEB.out));go_wp2_with (first
     |((with_reducible refine fP 26 ?_);go_must (refine bz rfl _ rfl (ai bu (.slice none 0 0)) (by kernel_rfl) ?_))
     |((with_reducible refine dW 26 ?_);go_must (refine wpList_store_row rfl _ _ _ rfl w.heap.size (ai bu (.slice none 0 0)) rfl rfl 26 (ai bu (.slice none 0 0)) DV.out.var Xn.out rfl (aT _ _ _ _) ?_)))
    refine bodyPost_ret (v:= .tuple #[.agg (ai bu (.slice none 0 0)),I 3]) (aV rfl _ _ w.heap.size _ (ai bu (.slice none 0 0)) (0,0) _ rfl (setRow_heap _ _ _ _ _ _ DV.out.var) Tryz.underlying26 rfl Xn.out _ rfl) rfl ?_;exact .inr ⟨Zj.out,rfl,aB HB4.out (Nat.le_refl _) _⟩
  ·have HB4:=ae ((HB2.out.trans (HB3.out.mono (by omega))).trans (hb4.mono (by omega)));have DV:=ae (tY.out.below hb4);have Zj:Hid (yz B=none):=ae (Ol HPT.out fun h=>hv0 h.1);obtain ⟨v,hv⟩:∃v,mg t=v:=⟨_,rfl⟩;rw [hv] at hv0 ⊢;have hv1:(v !=0)=true:=by simp [hv0]
   clear hb4 HB3 HR3 HZ3 HR2 HZ2 HB2 IA tY hv;go_wp2_with (first
    |((with_reducible refine fP 26 ?_);go_must (refine bz rfl _ rfl (ai bu (.slice none 0 0)) (by kernel_rfl) ?_))
    |((with_reducible refine dW 26 ?_);go_must (refine wpList_store_row rfl _ _ _ rfl w.heap.size (ai bu (.slice none 0 0)) rfl rfl 26 (ai bu (.slice none 0 0)) DV.out.var Xn.out rfl (aT _ _ _ _) ?_)))
   refine bodyPost_ret (v:= .tuple #[.agg (ai bu (.slice none 0 0)),I 3]) (aV rfl _ _ w.heap.size _ (ai bu (.slice none 0 0)) (0,0) _ rfl (setRow_heap _ _ _ _ _ _ DV.out.var) Tryz.underlying26 rfl Xn.out _ rfl) rfl ?_;exact .inr ⟨Zj.out,rfl,aB HB4.out (Nat.le_refl _) _⟩
 ·have HR2:=ae (yt.out.below hb2);have HB2:=ae (ah HB0.out hb2);have Zj:=ae (EK hpt);have Xd:Hid ((Tryz.prog.info? 26).map (·.size)=some C.size):=ae (by rw [hCs];exact (bD bu (.slice none 0 0) rfl rfl).trans (by rw [bf bu _ rfl rfl]));have wF:Hid ((ai bu (.slice none 0 0)).size=C.size):=ae (by rw [hCs];exact bf bu _ rfl rfl);have HCO:=ae hCo;have hw2:w.heap.size<w2.heap.size:=HR2.out.lt;clear hb2 HC yt HB0 hpt hCs hCo;have HR3:Hid (AV w.heap.size 26 (ai bu (.slice none 0 0)) ((w2.alloc (.cells (ai bu (.slice none 0 0)) 26)).setRow w2.heap.size C)):=ae ((HR2.out.below (ag w2 _)).rW (by omega) _);have HB3:Hid (Below w.heap.size w ((w2.alloc (.cells (ai bu (.slice none 0 0)) 26)).setRow w2.heap.size C)):=ae (aB (ah HB2.out (ag w2 _)) (by omega) _);go_wp2_with (first
   |((with_reducible refine aZ 26 ?_);go_must (refine aG rfl _ rfl (ai bu (.slice none 0 0)) ed ?_))
   |((with_reducible refine fP 26 ?_);go_must (refine bz rfl _ rfl (ai bu (.slice none 0 0)) (by kernel_rfl) ?_))
   |((with_reducible refine dW 26 ?_);go_must (first
     |(refine wpList_store_row rfl _ _ _ rfl w2.heap.size C rfl rfl 26 (ai bu (.slice none 0 0)) (heap_alloc_last _ _) Xd.out wF.out HCO.out ?_)
     |(refine wpList_store_row rfl _ _ _ rfl w.heap.size (ai bu (.slice none 0 0)) rfl rfl 26 (ai bu (.slice none 0 0)) HR3.out.var Xn.out rfl (aT _ _ _ _) ?_))))
  refine bodyPost_ret (v:= .tuple #[.agg (ai bu (.slice none 0 0)),I 3]) (aV rfl _ _ w.heap.size _ (ai bu (.slice none 0 0)) (0,0) _ rfl (setRow_heap _ _ _ _ _ _ HR3.out.var) Tryz.underlying26 rfl Xn.out _ rfl) rfl ?_;exact .inr ⟨Zj.out,rfl,aB HB3.out (Nat.le_refl _) _⟩
end Go.Proofs.YtbaehbbonkljpaaGreatDoor
namespace Go.Proofs.YtbaehbbonkljpaaGreatDoor
open Go Go.RowKit
theorem Ee (A A2:Option Addr) (n m c c2:Nat) (bs cs:List UInt8) (w:World) (hl:bs.length=n) (hl2:cs.length=m) (hn:n<=1000000) (h1:aA w w.heap.size A (bs.map Extern.Stop.cell)) (h2:aA w w.heap.size A2 (cs.map Extern.Stop.cell)):
  Calls Tryz.prog 25 #[.slice A n c, .slice A2 m c2] w (Gives (.bool (decide (bs=cs))) w):=by
 by_cases hnm:n=m
 ·subst hnm;have H1:=ae h1;have H2:=ae h2;have HL:=ae hl;have HL2:=ae hl2;clear h1 h2 hl hl2;go_enter Tryz.func25,Tryz.ntmps25;go_wp2_with fail
  go_loopw [5] (fun i wr=>∃k:Nat,k<=n/\i=I k/\(∀j,j<k->bs[j]? =cs[j]?)/\∃m,wr=w.drewN m) (fun i _=>n - (intOf i).toNat)
  case atStart=>exact ⟨0,Nat.zero_le _,rfl,fun _ h=>absurd h (Nat.not_lt_zero _),0,rfl⟩
  case round=>
   obtain ⟨k,hk,rfl,hz,m,rfl⟩:=hrel;have HZ:=ae hz;clear hz;by_cases hlt:(k:Int)<(n:Int)
   ·have hk2:k<n:=by omega
    obtain ⟨b,off,rfl,hb,hc⟩:=H1.out.there (by rw [List.length_map,HL.out];omega);obtain ⟨b2,xG,rfl,hb2,hc2⟩:=H2.out.there (by rw [List.length_map,HL2.out];omega);obtain ⟨x,hx⟩:∃x,bs[k]? =some x:=⟨_,bK (by rw [HL.out];exact hk2)⟩;obtain ⟨y,hy⟩:∃y,cs[k]? =some y:=⟨_,bK (by rw [HL2.out];exact hk2)⟩;have e1:w.cell? ⟨b,off+k,none⟩=some (.int .u8 (x.toNat:Int)):=hc k _ (by rw [List.getElem?_map,hx];rfl);have e2:w.cell? ⟨b2,xG+k,none⟩=some (.int .u8 (y.toNat:Int)):=hc2 k _ (by rw [List.getElem?_map,hy];rfl);have HX:=ae hx;have HY:=ae hy;clear hc hc2 hx hy;by_cases hxy:x=y
    ·subst hxy;have hne:=LW x;go_wp2_with fail;go_quiet (fail);go_wp2_with fail;go_roundw
     case rel=>exact ⟨k+1,by omega,by go_num,fun j hj=>by
      rcases Nat.lt_succ_iff_lt_or_eq.1 hj with h|h
      ·exact HZ.out j h
      ·subst h;rw [HX.out,HY.out],_,rfl⟩
     case measure=>simp [intOf];omega
    ·have hne:=Tn hxy;have Hy:=ae hxy;clear hxy;go_wp2_with fail;go_quiet (fail);go_wp2_with fail;go_ret;have hf:decide (bs=cs)=false:=decide_eq_false fun h=>by
      have h3:=HX.out;rw [h,HY.out] at h3;injection h3 with h3;exact Hy.out h3.symm
     refine ⟨by rw [hf];rfl,?_⟩
     first|exact below_drewN' _ _|(rw [World.drewN_drewN];exact below_drewN' _ _)
   ·go_wp2_with fail;go_ret;have ht:bs=cs:=List.ext_getElem? fun j=>by
     have h1:=HL.out;have h2:=HL2.out;by_cases hj:j<k
     ·exact HZ.out j hj
     ·rw [List.getElem?_eq_none (by omega),List.getElem?_eq_none (by omega)]
    exact ⟨by rw [decide_eq_true ht];rfl,below_drewN' _ _⟩
 ·have hne:((n:Int) !=(m:Int))=true:=by rw [xC];exact decide_eq_true (by omega)
  have FO:=ae hnm;clear hnm h1 h2;go_enter Tryz.func25,Tryz.ntmps25;go_wp2_with fail;go_ret;have hf:decide (bs=cs)=false:=decide_eq_false fun h=>FO.out (by rw [<-hl,<-hl2,h]);exact ⟨by rw [hf];rfl,Below.refl _ _⟩
end Go.Proofs.YtbaehbbonkljpaaGreatDoor
