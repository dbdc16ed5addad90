/- The texts Ug, Ja, in this order. -/
import Derived.Test.YtdibbemgpikgjaaGreatW00
import Derived.Test.YtdibbemgpikgjaaGreatW02
import Derived.Test.YtdibbemgpikgjaaGreatW30
import Derived.Test.YtdibbemgpikgjaaGreatW32
set_option maxRecDepth 10000
set_option maxHeartbeats 8000000
namespace Go.Proofs.YtdibbemgpikgjaaGreat
open Go Go.RowKit
attribute [local go_sem] dD dH dE dI ed eu dB dF dC dG jA jB
theorem Kq (w:World) (rb n:Nat) (A:Option Addr) (c:Nat) (h1:w.heap[rb]? =some (.cells #[.slice A 0 c] 110 (0,0))) (hn:0<n):
  Calls Tryz.prog 169 #[.pointer (some ⟨rb,0,none⟩),I n] w fun e w'=>e= .panicked kR∧w'=w:=by
 have hc0:w.cell? ⟨rb,0,none⟩=some (.slice A 0 c):=cell_of_row w rb 0 _ _ _ h1;have n0:(0:Int)<(n:Int):=by omega
 clear h1;go_enter Tryz.func169,Tryz.ntmps169
 go_wp2
 exact ⟨rfl,rfl,rfl⟩
theorem DF (w:World) (rb pb po size:Nat) (t:TypeId) (cs:Array Value) (A:Option Addr) (c:Nat) (h1:w.heap[rb]? =some (.cells #[.slice A 0 c] 110 (0,0))) (hn:0<size) (hp:w.heap[pb]? =some (.cells cs t (0,0))) (hpo:po<cs.size) (hne:pb≠rb):
  Calls Tryz.prog 166 #[pt rb, .pointer (some ⟨pb,po,none⟩),I size] w (dO w rb pb t cs):=by
 refine (callsIn_wide (n:=3)).1 ?_;have hro:Fence.wide.round=none:=rfl;have h11:1≤3:=by omega
 have hlt:rb<w.heap.size:=(bY.1 h1).1;have hpl:pb<w.heap.size:=(bY.1 hp).1;have hc0:w.cell? ⟨pb,po,none⟩=some cs[po]:=by rw [cell_of_row w pb po _ _ _ hp];exact Array.getElem?_eq_getElem hpo
 have hf0:w.frozen? ⟨pb,po,none⟩=false:=frozen_of_row w pb po _ _ hp;obtain ⟨WS,hWS⟩:∃W,w.setCell ⟨pb,po,none⟩ (I 0)=W:=⟨_,rfl⟩;have Aq:iT pb w WS:=by rw [←hWS];exact ⟨rfl,rfl,rfl,by simp [World.setCell],fun k _ hk2=>heap_setCell_other _ _ k _ hk2⟩
 have htS:bD w rb pb t (cs.setIfInBounds po (I 0)) WS:=by rw [←hWS];exact (bD.refl hp).put po (I 0)
 have hsS:pb<WS.heap.size:=by have:=Aq.size;omega
 obtain ⟨W1,hW1⟩:∃W,WS.alloc (.cells #[.pointer (some ⟨pb,po,none⟩)] 115)=W:=⟨_,rfl⟩;have hk1:iT pb w W1:=by
  rw [←hW1];exact ⟨Aq.os,Aq.tape,Aq.output,Nat.le_trans Aq.size (by simp),fun k hk hk2=>(Below.heap_alloc WS _ k (dS hk Aq.size)).trans (Aq.block k hk hk2)⟩
 have ht1:bD w rb pb t (cs.setIfInBounds po (I 0)) W1:=by rw [←hW1];exact htS.grow (ag WS _) hsS hne
 rw [←hWS] at hW1;have hr1:W1.heap[rb]? =some (.cells #[.slice A 0 c] 110 (0,0)):=(hk1.block rb hlt (fun e=>hne e.symm)).trans h1;have HT:=ae (Kq W1 rb size A c hr1 hn);have gK:Hid (dO w rb pb t cs (.panicked kR) W1):=ae ⟨rfl,_,(dU.refl cs).set rfl,ht1⟩;have HW1:=ae hW1;clear h1 hr1 hk1 Aq hW1 hWS hp htS ht1 hsS;refine callsIn_of_wp_marks Tryz.func166 rfl trivial ?_ hro;simp only [Tryz.ntmps166,List.size_toArray,List.length_cons,List.length_nil,Nat.reduceAdd,Nat.reduceSub,Array.replicate_succ,Array.replicate_zero,List.push_toArray,List.append_toArray,List.nil_append,List.cons_append]
 gi_wp2_with first
  |(refine ⟨trivial,?_⟩;gi_at_call 169;rw [HW1.out];refine (callsIn_wide.2 HT.out).mono ?_;rintro e w2 ⟨rfl,rfl⟩)
 exact gK.out
theorem EM (w:World) (rb tb:Nat) (A:Option Addr) (c:Nat) (h1:w.heap[rb]? =some (.cells #[.slice A 0 c] 110 (0,0))) (hp:w.heap[tb]? =some (.cells (ai bn (.slice none 0 0)) 32 (0,0))) (hne:tb≠rb):
  Calls Tryz.prog 23 #[.iface 109 (pt rb), .pointer (some ⟨tb,0,none⟩)] w (dO w rb tb 32 (ai bn (.slice none 0 0))):=by
 have jO:=ae (DF w.drew rb tb 0 1 32 _ A c h1 (by omega) hp (by rw [aZ _ _ rfl rfl];decide) hne);clear h1 hp;go_enter Tryz.func23,Tryz.ntmps23;go_wp2_with fail;go_still_tail 7,(by kernel_rfl);go_wp2_with fail;refine jO.out.mono ?_;rintro e w1 ⟨rfl,hd⟩;exact ⟨rfl,dO.bz ⟨rfl,hd⟩⟩
theorem Dk {B R:List UInt8} {t:Tb} (h:Eb B=some (t,R)):t.prev.length=32∧t.bJ=aS:=by
 unfold Eb at h;simp only [Option.bind_eq_some_iff,Option.map_eq_some_iff] at h;obtain ⟨i,_,v,_,x,_,d,hd,z,_,he⟩:=h;unfold pD at hd;split at hd
 ·simp only [Option.some.injEq] at hd;simp only [Prod.mk.injEq] at he;rw [←he.1];refine ⟨?_,rfl⟩;rw [←hd];show (List.take 32 x.2).length=32;rw [List.length_take];omega
 ·cases hd
def TrdU (w:World) (B:List UInt8) (e:Ending) (w':World):Prop:=
 (∃t A c ys,Eb B=some (t,[])∧e= .returned (.tuple #[.agg (ai t (.slice A t.aK.length c)), .bool true])∧I9 w.heap.size w' (.slice A t.aK.length c) ys∧ys.map (·.e)=t.aK∧Below w.heap.size w w')∨
 ((∀t,Eb B≠some (t,[]))∧∃C:Array Value,C.size=68∧C.all (·.oneCell')=true∧e= .returned (.tuple #[.agg C, .bool false])∧Below w.heap.size w w')
theorem QC (w:World) (B:List UInt8) (A0:Option Addr) (N c:Nat) (hN:B.length=N) (hc1:N≤c) (hc2:c≤9223372036854775807) (hA:BytesAt w w.heap.size A0 B):
  Calls Tryz.prog 20 #[.slice A0 N c] w (TrdU w B):=by
 have hmf:∀(fn:Fn) (first cap:Array Value) (w:World),(Instr.makeFunc fn first cap).run Tryz.prog w= .ok (.func fn first cap) w:=fun _ _ _ _=>rfl;obtain ⟨W,hW⟩:∃W,((w.alloc (.cells (ai bn (.slice none 0 0)) 32)).alloc (.cells #[.bool false] 4)).alloc (.cells #[.slice A0 N c] 110)=W:=⟨_,rfl⟩;have hB:Below w.heap.size w W:=by rw [←hW];exact (((Below.refl _ w).alloc (Nat.le_refl _) _).alloc (by simp) _).alloc (by simp;omega) _
 have hs:W.heap.size=w.heap.size+3:=by rw [←hW];simp
 have ht:W.heap[w.heap.size]? =some (.cells (ai bn (.slice none 0 0)) 32 (0,0)):=by rw [←hW];exact (Below.heap_alloc _ _ _ (by simp;omega)).trans (heap_alloc2_old w _ _)
 have ho:W.heap[w.heap.size+1]? =some (.cells #[.bool false] 4 (0,0)):=by rw [←hW];exact (Below.heap_alloc _ _ _ (by simp)).trans (heap_alloc2_new w _ _)
 have hrc:W.heap[w.heap.size+2]? =some (.cells #[.slice A0 N c] 110 (0,0)):=by
  rw [←hW];have:=heap_alloc_last ((w.alloc (.cells (ai bn (.slice none 0 0)) 32)).alloc (.cells #[.bool false] 4)) (.cells #[.slice A0 N c] 110);simpa using this
 have HC:Hid (Calls Tryz.prog 23 #[.iface 109 (pt (w.heap.size+2)), .pointer (some ⟨w.heap.size,0,none⟩)] W (dw (Eb B) (dO W (w.heap.size+2) w.heap.size 32 (ai bn (.slice none 0 0))) fun t R=>TWhQ w.heap.size W (w.heap.size+2) w.heap.size t t.aK.length R)):=ae (by
  by_cases h0:N=0
  ·subst h0;have hnil:B= []:=List.eq_nil_of_length_eq_zero hN;refine (EM W (w.heap.size+2) w.heap.size A0 c hrc ht (by omega)).mono fun e w' h=>dw.no ?_ h;rw [hnil];rfl
  ·rcases hA with hA|⟨b,off,rfl,hbl,hA⟩
   ·omega
   ·have hr:fQ w.heap.size W (w.heap.size+2) B:=⟨⟨b,off,c,by rw [hN];exact hrc,by rw [hN];exact hc1,hc2,hbl,fun j hj=>(hB.cell (p:=⟨b,off+j,none⟩) hbl).trans (hA j hj)⟩,by omega⟩;exact U1 w.heap.size W (w.heap.size+2) w.heap.size B hr ht (Nat.le_refl _) (by omega))
 have HB:=ae hB;have HS:=ae hs;have HO:=ae ho;clear hN hA hB hs ht ho hrc
 go_enter_defers Tryz.func20,Tryz.ntmps20
 go_wp2_with fail;rw [fK,hW];refine HC.out.mono ?_;intro e w2 h;rcases h.get with ⟨hq,hd⟩|⟨t,R,hq,rfl,A,cz,ys,hr2,hp2,hz2,he2⟩
 ·obtain ⟨rfl,C,hC,hp2⟩:=hd;have hs0:=HS.out;have ho2:w2.heap[w.heap.size+1]? =some (.cells #[.bool false] 4 (0,0)):=(hp2.block _ (by omega) (by omega) (by omega)).trans HO.out;have HB2:=ae (hp2.grown HB.out (Nat.le_refl _) (by omega) (by omega));refine leaves_cons (f:=40) (args:= #[.pointer (some ⟨w.heap.size+1,0,none⟩)]) (by simp) (by simp [go_sem]) ?_;refine (xU (w.heap.size+1) w2 (.bool false) ho2).mono ?_;rintro e u' w3 ⟨rfl,rfl,hk3,hq3⟩;have hv3:w3.heap[w.heap.size]? =some (.cells C 32 (0,0)):=(hk3.block _ (by have:=hp2.size;omega) (by omega)).trans hp2.tgt;have hc3:=cell_of_row _ (w.heap.size+1) 0 _ _ _ hq3;have hCs:C.size=68:=hC.1.trans (aZ bn _ rfl rfl);refine ⟨_,iV rfl _ _ w.heap.size (w.heap.size+1) _ C (0,0) _ (.bool false) rfl hv3 Tryz.underlying32 rfl (by rw [hCs];exact (bP bn (.slice none 0 0) rfl rfl).trans (by rw [aZ bn _ rfl rfl])) rfl (jh _ _ _ hc3), .inr ⟨(fun t h=>by rw [hq] at h;cases h),C,hCs,hC.2 (aT _ _ _ _),rfl,?_⟩⟩;have h1:=HB2.out;exact ⟨hk3.os.trans h1.os,hk3.tape.trans h1.tape,hk3.output.trans h1.output,Nat.le_trans h1.size hk3.size,fun k hk=>(hk3.block k (dS hk h1.size) (by omega)).trans (h1.block k hk)⟩
 have Jw:=Dk hq;have YQ:=ae Jw.1;have HMC:Hid (t.bJ.length=32):=ae (by rw [Jw.2];rfl);have Ey:({t with bJ:=aS}:Tb)=t:=by rw [←Jw.2]
 rw [Ey] at hp2;have dR:Hid (∀v,(Tryz.prog.info? 32).map (·.size)=some (ai t v).size):=ae fun v=>bP _ v YQ.out HMC.out;have HPT:=ae hq;obtain ⟨n,hn⟩:∃n,t.aK.length=n:=⟨_,rfl⟩;rw [hn] at hp2 hz2;have HN:=ae hn;have hs0:=HS.out;have ho2:w2.heap[w.heap.size+1]? =some (.cells #[.bool false] 4 (0,0)):=(hp2.block _ (by omega) (by omega) (by omega)).trans HO.out;have HB2:=ae (hp2.grown HB.out (Nat.le_refl _) (by omega) (by omega));have HV:=ae hp2.tgt;have HZ2:=ae (hz2.lower (lo':=w.heap.size+3) (by omega));have HRW:=ae (Row.kF hp2.tgt);have mJ:=ae ho2;have HE2:=ae he2;have hlt2:w.heap.size+3≤w2.heap.size:=by have:=hp2.size;omega
 obtain ⟨bb,o2,c2,hq2,_⟩:=hr2.at_;by_cases hR0:R= []
 ·have HRR:=ae hR0;subst hR0;have hc2:w2.cell? ⟨w.heap.size+1+1,0,none⟩=some (.slice (some ⟨bb,o2,none⟩) 0 c2):=cell_of_row w2 (w.heap.size+2) 0 _ _ _ hq2;clear hr2 hp2 hz2 he2 ho2 hW HC hq2 HO HB HS hn Jw Ey hq h;go_wp2_with fail;refine wp_region_noPanic ?_;refine wp_region_held_drew (S:=fun W=>Row W w.heap.size (ai t (.slice A n cz))∧W.cell? ⟨w.heap.size+1+1,0,none⟩=some (.slice (some ⟨bb,o2,none⟩) 0 c2)) (by kernel_rfl) ⟨⟨HRW.out.1,HRW.out.2⟩,hc2⟩ (fun hH=>?_);refine mQ 0 _ 12 rfl rfl hH (yieldsIf_load_mid (by rfl) _ _ rfl w.heap.size 0 rfl (ai t (.slice A n cz)).toList _ (fun W hW j v hv=>by rw [Nat.zero_add,hW.1.2 j];simpa using hv) Tryz.underlying32 rfl (by rw [dR.out,Array.length_toList])) ?_;refine ay ?_;refine tC 1 (pt (w.heap.size+1+1)) 13 rfl rfl hH (fun W hW=>by obtain ⟨_,hW2⟩:=hW;go_simp) ?_;refine ay ?_;refine tC 2 (pt (w.heap.size+1+1)) 14 rfl rfl hH (fun W hW=>by obtain ⟨_,hW2⟩:=hW;go_simp) ?_;refine ay ?_;refine tC 3 (pt (w.heap.size+1+1)) 15 rfl rfl hH (fun W hW=>by obtain ⟨_,hW2⟩:=hW;go_simp) ?_;refine ay ?_;refine tC 4 (.slice (some ⟨bb,o2,none⟩) 0 c2) 16 rfl rfl hH (fun W hW=>by obtain ⟨_,hW2⟩:=hW;go_simp) ?_;refine ay ?_;refine tC 5 (I 0) 17 rfl rfl hH (fun W hW=>by obtain ⟨_,hW2⟩:=hW;go_simp) ?_;refine ay ?_;refine tC 6 (.bool true) 18 rfl rfl hH (fun W hW=>by obtain ⟨_,hW2⟩:=hW;go_simp) ?_;refine ay ?_;have hv2:w2.drew.heap[w.heap.size]? =some (.cells (ai t (.slice A n cz)) 32 (0,0)):=HV.out;have HW3:Hid ((w2.drew.setRow w.heap.size (ai t (.slice A n cz))).heap[w.heap.size]? =some (.cells (ai t (.slice A n cz)) 32 (0,0))):=ae (setRow_heap _ _ _ _ _ _ hv2);have kX:Hid (∀k,k≠w.heap.size→(w2.drew.setRow w.heap.size (ai t (.slice A n cz))).heap[k]? =w2.heap[k]?):=ae fun k hk=>setRow_other _ _ k _ hk;have KN:Hid ((w2.drew.setRow w.heap.size (ai t (.slice A n cz))).heap.size=w2.heap.size):=ae (by show (w2.setRow w.heap.size _).heap.size=_;simp [World.setRow]);have HD3:Hid ((w2.drew.setRow w.heap.size (ai t (.slice A n cz))).os=w2.os∧(w2.drew.setRow w.heap.size (ai t (.slice A n cz))).tape=w2.tape∧(w2.drew.setRow w.heap.size (ai t (.slice A n cz))).output=w2.output):=ae ⟨rfl,rfl,rfl⟩;have hc3:(w2.drew.setRow w.heap.size (ai t (.slice A n cz))).cell? ⟨w.heap.size+1+1,0,none⟩=some (.slice (some ⟨bb,o2,none⟩) 0 c2):=(World.cell?_of_block (a:=⟨w.heap.size+1+1,0,none⟩) (kX.out _ (by show w.heap.size+1+1≠w.heap.size;omega))).trans hc2;refine og (i:=7) (by kernel_rfl) rfl (by rfl) _ _ _ rfl rfl w.heap.size (ai t (.slice A n cz)) rfl rfl 32 (ai t (.slice A n cz)) hv2 (dR.out _) rfl (aT _ _ _ _) ⟨Row.kF HW3.out,hc3⟩ (fun hH3=>?_);clear hH hH3;generalize w2.drew.setRow w.heap.size (ai t (.slice A n cz))=w3 at HW3 kX KN HD3 hc3 ⊢;have ho3:w3.heap[w.heap.size+1]? =some (.cells #[.bool false] 4 (0,0)):=(kX.out _ (by omega)).trans mJ.out;have hcc:=cell_of_row _ (w.heap.size+1) 0 _ _ _ ho3;have hfc:=frozen_of_row _ (w.heap.size+1) 0 _ _ ho3;have mV:=ae ho3;have hS4:Row (w3.setCell ⟨w.heap.size+1,0,none⟩ (.bool true)) w.heap.size (ai t (.slice A n cz))∧(w3.setCell ⟨w.heap.size+1,0,none⟩ (.bool true)).cell? ⟨w.heap.size+1+1,0,none⟩=some (.slice (some ⟨bb,o2,none⟩) 0 c2):=
   ⟨Row.kF ((heap_setCell_other w3 _ w.heap.size _ (by show w.heap.size≠w.heap.size+1;omega)).trans HW3.out),(World.cell?_of_block (a:=⟨w.heap.size+1+1,0,none⟩) (heap_setCell_other w3 _ _ _ (by show w.heap.size+1+1≠w.heap.size+1;omega))).trans hc3⟩
  have yu:=ae hS4;clear hv2 ho3 hS4;refine bT 8 (fun K hK=>?_);go_simp;refine hK.out _ _ yu.out (fun hH4=>?_);refine wpAnyH_done (by kernel_rfl) ?_ _;refine NoPanic.normal ?_;clear hK K hH4;go_wp2_with fail;refine leaves_cons (f:=40) (args:= #[.pointer (some ⟨w.heap.size+1,0,none⟩)]) (by simp) (by simp [go_sem]) ?_;refine (uC _ _).mono ?_;rintro e u' KT ⟨rfl,rfl,rfl⟩;have hbl:∀k,k≠w.heap.size→k≠w.heap.size+1→(w3.setCell ⟨w.heap.size+1,0,none⟩ (.bool true)).heap[k]? =w2.heap[k]? :=fun k h1 h2=>
   (heap_setCell_other _ _ k _ h2).trans (kX.out k h1)
  have hsz:(w3.setCell ⟨w.heap.size+1,0,none⟩ (.bool true)).heap.size=w2.heap.size:=by rw [←KN.out];simp [World.setCell]
  have hv4:(w3.setCell ⟨w.heap.size+1,0,none⟩ (.bool true)).heap[w.heap.size]? =some (.cells (ai t (.slice A n cz)) 32 (0,0)):=(heap_setCell_other w3 ⟨w.heap.size+1,0,none⟩ w.heap.size _ (by show w.heap.size≠w.heap.size+1;omega)).trans HW3.out;have hc4:=cell_of_row _ (w.heap.size+1) 0 _ _ _ (heap_setCell_same _ (w.heap.size+1) 0 _ _ (.bool true) mV.out);have hlow:Below w.heap.size w (w3.setCell ⟨w.heap.size+1,0,none⟩ (.bool true)):=HB2.out.trans ⟨HD3.out.1,HD3.out.2.1,HD3.out.2.2,Nat.le_of_eq hsz.symm,fun k hk=>hbl k (by omega) (by omega)⟩;refine ⟨_,iV rfl _ _ w.heap.size (w.heap.size+1) _ (ai t (.slice A n cz)) (0,0) _ (.bool true) rfl hv4 Tryz.underlying32 rfl (dR.out _) rfl (jh _ _ _ hc4),?_⟩;refine .inl ⟨t,A,cz,ys,HPT.out,by rw [HN.out],?_,HE2.out,hlow⟩;rw [HN.out];exact (HZ2.out.aQ (Nat.le_of_eq hsz.symm) fun k h1 h2=>hbl k (by omega) (by omega)).lower (by omega)
 ·have HRR:=ae hR0;obtain ⟨L,hL⟩:∃L,R.length=L:=⟨_,rfl⟩;rw [hL] at hq2;have hL0:L≠0:=by
   intro h0;rw [h0] at hL;exact hR0 (List.eq_nil_of_length_eq_zero hL)
  have hL1:¬L=0:=hL0;have hL2:(L==0)=false:=by simp [hL0]
  have hL3:((L:Int)==0)=false:=by simp;omega
  have hc2:w2.cell? ⟨w.heap.size+1+1,0,none⟩=some (.slice (some ⟨bb,o2,none⟩) L c2):=cell_of_row w2 (w.heap.size+2) 0 _ _ _ hq2;clear hr2 hp2 hz2 he2 ho2 hW HC hq2 HO HB HS hn Jw Ey hq h hL hR0;go_wp2_with fail;refine wp_region_noPanic ?_;refine wp_region_held_drew (S:=fun W=>Row W w.heap.size (ai t (.slice A n cz))∧W.cell? ⟨w.heap.size+1+1,0,none⟩=some (.slice (some ⟨bb,o2,none⟩) L c2)) (by kernel_rfl) ⟨⟨HRW.out.1,HRW.out.2⟩,hc2⟩ (fun hH=>?_);refine mQ 0 _ 12 rfl rfl hH (yieldsIf_load_mid (by rfl) _ _ rfl w.heap.size 0 rfl (ai t (.slice A n cz)).toList _ (fun W hW j v hv=>by rw [Nat.zero_add,hW.1.2 j];simpa using hv) Tryz.underlying32 rfl (by rw [dR.out,Array.length_toList])) ?_;refine ay ?_;refine tC 1 (pt (w.heap.size+1+1)) 13 rfl rfl hH (fun W hW=>by obtain ⟨_,hW2⟩:=hW;go_simp) ?_;refine ay ?_;refine tC 2 (pt (w.heap.size+1+1)) 14 rfl rfl hH (fun W hW=>by obtain ⟨_,hW2⟩:=hW;go_simp) ?_;refine ay ?_;refine tC 3 (pt (w.heap.size+1+1)) 15 rfl rfl hH (fun W hW=>by obtain ⟨_,hW2⟩:=hW;go_simp) ?_;refine ay ?_;refine tC 4 (.slice (some ⟨bb,o2,none⟩) L c2) 16 rfl rfl hH (fun W hW=>by obtain ⟨_,hW2⟩:=hW;go_simp) ?_;refine ay ?_;refine tC 5 (I (L:Nat)) 17 rfl rfl hH (fun W hW=>by obtain ⟨_,hW2⟩:=hW;go_simp) ?_;refine ay ?_;refine tC 6 (.bool false) 18 rfl rfl hH (fun W hW=>by obtain ⟨_,hW2⟩:=hW;go_simp) ?_;refine ay ?_;have hv2:w2.drew.heap[w.heap.size]? =some (.cells (ai t (.slice A n cz)) 32 (0,0)):=HV.out;have HW3:Hid ((w2.drew.setRow w.heap.size (ai t (.slice A n cz))).heap[w.heap.size]? =some (.cells (ai t (.slice A n cz)) 32 (0,0))):=ae (setRow_heap _ _ _ _ _ _ hv2);have kX:Hid (∀k,k≠w.heap.size→(w2.drew.setRow w.heap.size (ai t (.slice A n cz))).heap[k]? =w2.heap[k]?):=ae fun k hk=>setRow_other _ _ k _ hk;have KN:Hid ((w2.drew.setRow w.heap.size (ai t (.slice A n cz))).heap.size=w2.heap.size):=ae (by show (w2.setRow w.heap.size _).heap.size=_;simp [World.setRow]);have HD3:Hid ((w2.drew.setRow w.heap.size (ai t (.slice A n cz))).os=w2.os∧(w2.drew.setRow w.heap.size (ai t (.slice A n cz))).tape=w2.tape∧(w2.drew.setRow w.heap.size (ai t (.slice A n cz))).output=w2.output):=ae ⟨rfl,rfl,rfl⟩;have hc3:(w2.drew.setRow w.heap.size (ai t (.slice A n cz))).cell? ⟨w.heap.size+1+1,0,none⟩=some (.slice (some ⟨bb,o2,none⟩) L c2):=(World.cell?_of_block (a:=⟨w.heap.size+1+1,0,none⟩) (kX.out _ (by show w.heap.size+1+1≠w.heap.size;omega))).trans hc2;refine og (i:=7) (by kernel_rfl) rfl (by rfl) _ _ _ rfl rfl w.heap.size (ai t (.slice A n cz)) rfl rfl 32 (ai t (.slice A n cz)) hv2 (dR.out _) rfl (aT _ _ _ _) ⟨Row.kF HW3.out,hc3⟩ (fun hH3=>?_);clear hH hH3;generalize w2.drew.setRow w.heap.size (ai t (.slice A n cz))=w3 at HW3 kX KN HD3 hc3 ⊢;have ho3:w3.heap[w.heap.size+1]? =some (.cells #[.bool false] 4 (0,0)):=(kX.out _ (by omega)).trans mJ.out;have hcc:=cell_of_row _ (w.heap.size+1) 0 _ _ _ ho3;have hfc:=frozen_of_row _ (w.heap.size+1) 0 _ _ ho3;have mV:=ae ho3;have hS4:Row (w3.setCell ⟨w.heap.size+1,0,none⟩ (.bool false)) w.heap.size (ai t (.slice A n cz))∧(w3.setCell ⟨w.heap.size+1,0,none⟩ (.bool false)).cell? ⟨w.heap.size+1+1,0,none⟩=some (.slice (some ⟨bb,o2,none⟩) L c2):=
   ⟨Row.kF ((heap_setCell_other w3 _ w.heap.size _ (by show w.heap.size≠w.heap.size+1;omega)).trans HW3.out),(World.cell?_of_block (a:=⟨w.heap.size+1+1,0,none⟩) (heap_setCell_other w3 _ _ _ (by show w.heap.size+1+1≠w.heap.size+1;omega))).trans hc3⟩
  have yu:=ae hS4;clear hv2 ho3 hS4;refine bT 8 (fun K hK=>?_);go_simp;refine hK.out _ _ yu.out (fun hH4=>?_);refine wpAnyH_done (by kernel_rfl) ?_ _;refine NoPanic.normal ?_;clear hK K hH4;go_wp2_with fail;refine leaves_cons (f:=40) (args:= #[.pointer (some ⟨w.heap.size+1,0,none⟩)]) (by simp) (by simp [go_sem]) ?_;refine (uC _ _).mono ?_;rintro e u' KT ⟨rfl,rfl,rfl⟩;have hbl:∀k,k≠w.heap.size→k≠w.heap.size+1→(w3.setCell ⟨w.heap.size+1,0,none⟩ (.bool false)).heap[k]? =w2.heap[k]? :=fun k h1 h2=>
   (heap_setCell_other _ _ k _ h2).trans (kX.out k h1)
  have hsz:(w3.setCell ⟨w.heap.size+1,0,none⟩ (.bool false)).heap.size=w2.heap.size:=by rw [←KN.out];simp [World.setCell]
  have hv4:(w3.setCell ⟨w.heap.size+1,0,none⟩ (.bool false)).heap[w.heap.size]? =some (.cells (ai t (.slice A n cz)) 32 (0,0)):=(heap_setCell_other w3 ⟨w.heap.size+1,0,none⟩ w.heap.size _ (by show w.heap.size≠w.heap.size+1;omega)).trans HW3.out;have hc4:=cell_of_row _ (w.heap.size+1) 0 _ _ _ (heap_setCell_same _ (w.heap.size+1) 0 _ _ (.bool false) mV.out);have hlow:Below w.heap.size w (w3.setCell ⟨w.heap.size+1,0,none⟩ (.bool false)):=HB2.out.trans ⟨HD3.out.1,HD3.out.2.1,HD3.out.2.2,Nat.le_of_eq hsz.symm,fun k hk=>hbl k (by omega) (by omega)⟩;refine ⟨_,iV rfl _ _ w.heap.size (w.heap.size+1) _ (ai t (.slice A n cz)) (0,0) _ (.bool false) rfl hv4 Tryz.underlying32 rfl (dR.out _) rfl (jh _ _ _ hc4),?_⟩;refine .inr ⟨fun t' ht=>?_,(ai t (.slice A n cz)),?_,aT _ _ _ _,rfl,hlow⟩
  ·rw [HPT.out] at ht;injection ht with ht;injection ht with _ ht;exact HRR.out ht
  ·have h:=dR.out (.slice A n cz);exact aZ t _ YQ.out HMC.out
end Go.Proofs.YtdibbemgpikgjaaGreat
namespace Go.Proofs.YtdibbemgpikgjaaGreat
open Go Go.RowKit
def ng:List Lr→Nat→Option Nat
 | [],y=>some y
 |r::rs,y=>if r.every<1∨400<r.every∨r.rest<0∨r.every≤r.rest then none else if 400<Nat.lcm y r.every.toNat then none else ng rs (Nat.lcm y r.every.toNat)
def XO:Option Nat→Value
 |none=> .tuple #[I 0, .bool false]
 |some y=> .tuple #[I (y:Int), .bool true]
theorem OW:∀(rs:List Lr) (y N:Nat),1≤y→y≤400→ng rs y=some N→1≤N∧N≤400
 | [],y,N,h1,h2,h=>by
  injection h with h;omega
 |r::rs,y,N,h1,h2,h=>by
  unfold ng at h;split at h
  ·cases h
  ·rename_i hb;split at h
   ·cases h
   ·rename_i hl;refine OW rs _ N (Nat.lcm_pos (by omega) (by omega)) (by omega) h
theorem JL (rs:List Lr) (R:Option Addr) (r n:Nat) (w:World) (h:aB w w.heap.size R (rs.flatMap Lr.cells)) (hn:rs.length=n) (hn2:n≤100000):Calls Tryz.prog 74 #[.slice R n r] w (Gives (XO (ng rs 1)) w):=by
 have HN:=ae hn;have HC:=ae h;have KN:Hid ((rs.flatMap Lr.cells).length=n*3):=ae (by rw [dP (s:=3) Lr.cells rs (fun _ _=>rfl),hn]);clear h hn;go_enter Tryz.func74,Tryz.ntmps74;go_wp2_with fail
 go_loopw [4,11] (fun y i wr=>∃k Y:Nat,k≤n∧y=I (Y:Int)∧i=I (k:Int)∧1≤Y∧Y≤400∧ng rs 1=ng (rs.drop k) Y∧Below w.heap.size w wr) (fun _ i _=>n - (intOf i).toNat)
 case atStart=>exact ⟨0,1,Nat.zero_le _,rfl,rfl,by omega,by omega,rfl,Below.refl _ _⟩
 case round=>
  obtain ⟨k,Y,hk,rfl,rfl,hy1,hy2,hp,hb⟩:=hrel;have HB:=ae hb;have HP:=ae hp;clear hb hp;by_cases hlt:k<n
  ·obtain ⟨x,hx⟩:∃x,rs[k]? =some x:=⟨_,dK (by rw [HN.out];exact hlt)⟩;obtain ⟨b,off,rfl,hbl,hcl⟩:=HC.out.there (by rw [KN.out];omega);have hr:=aW (aB.elem (s:=3) (f:=Lr.cells) (fun _ _=>rfl) hcl k x hx) HB.out hbl;have hd:rs.drop k=x::rs.drop (k+1):=by
    rw [List.drop_eq_getElem_cons (by rw [HN.out];exact hlt)];rw [dK (by rw [HN.out];exact hlt)] at hx;injection hx with hx;rw [hx]
   rw [hd] at HP;obtain ⟨ev,re,ye⟩:=x;have f0:wr.cell? ⟨b,off+k*3,none⟩=some (I ev):=hr 0 _ rfl;have f1:wr.cell? ⟨b,off+k*3+1,none⟩=some (I re):=hr 1 _ rfl;have f2:wr.cell? ⟨b,off+k*3+2,none⟩=some (.bool ye):=hr 2 _ rfl;have i0:(0:Int)≤(k:Int):=by omega
   have i1:(k:Int)<(n:Int):=by omega
   have hne:¬b=wr.heap.size:=by have:=HB.out.size;omega
   have HB2:=ae (ah HB.out (ag wr (.cells #[I ev,I re, .bool ye] 134)));by_cases hbad:ev<1∨400<ev∨re<0∨ev≤re
   ·have hF:ng rs 1=none:=by rw [HP.out];unfold ng;rw [if_pos hbad]
    have HF:=ae hF;have hb4:ev<1∨(¬ev<1∧400<ev)∨(¬ev<1∧¬400<ev∧re<0)∨(¬ev<1∧¬400<ev∧¬re<0∧ev≤re):=by omega
    clear hbad hd hr hcl hx hF;rcases hb4 with g1|⟨g1,g2⟩|⟨g1,g2,g3⟩|⟨g1,g2,g3,g4⟩
    all_goals
     go_wp2_with fail;go_ret2;exact ⟨by rw [HF.out];rfl,HB2.out⟩
   ·have g1:¬ev<1:=fun h=>hbad (.inl h);have g2:¬400<ev:=fun h=>hbad (.inr (.inl h));have g3:¬re<0:=fun h=>hbad (.inr (.inr (.inl h)));have g4:¬ev≤re:=fun h=>hbad (.inr (.inr (.inr h)));obtain ⟨E,rfl⟩:∃E:Nat,ev=(E:Int):=⟨ev.toNat,by omega⟩;have HLC:=ae (fun W=>OJ Y E hy1 hy2 (by omega) (by omega) W);obtain ⟨L,hL⟩:∃L,Nat.lcm Y E=L:=⟨_,rfl⟩;have hL1:1≤L:=by rw [←hL];exact Nat.lcm_pos (by omega) (by omega)
    have hP2:ng rs 1=if 400<L then none else ng (rs.drop (k+1)) L:=by
     rw [HP.out];show (if _ then _ else _)=_;rw [if_neg hbad,Int.toNat_natCast,hL]
    have HP2:=ae hP2;rw [hL] at HLC;clear hbad hd hr hcl hx hP2 hL HP;go_upto_region 8 with fail;refine (HLC.out _).mono ?_;rintro e w5 ⟨rfl,hb5⟩;have oN:=ae (ah HB2.out hb5);clear hb5 HB2 HLC f0 f1 f2;by_cases hL4:400<L
    ·have hl:(400:Int)<(L:Int):=by omega
     have HF:Hid (ng rs 1=none):=ae (by rw [HP2.out,if_pos hL4]);go_wp2_with fail;go_ret2;exact ⟨by rw [HF.out];rfl,oN.out⟩
    ·have hl:¬(400:Int)<(L:Int):=by omega
     have HF:Hid (ng rs 1=ng (rs.drop (k+1)) L):=ae (by rw [HP2.out,if_neg hL4]);go_wp2_with fail;go_roundw
     case rel=>exact ⟨k+1,L,by omega,rfl,by go_num,hL1,by omega,HF.out,oN.out⟩
     case measure=>simp [intOf];omega
  ·have hkn:k=n:=by omega
   have hlt':¬(k:Int)<(n:Int):=by omega
   have HF:Hid (ng rs 1=some Y):=ae (by rw [HP.out,List.drop_of_length_le (by rw [HN.out];omega)];rfl);clear hlt hkn;go_wp2_with fail;go_ret2;exact ⟨by rw [HF.out];rfl,HB.out⟩
structure kZ (c:Cal):Prop where
 ep:0≤c.aI∧c.aI≤1048576
 ml:1≤c.aj.length∧c.aj.length≤16
 lp: -1≤c.aY∧c.aY<(c.aj.length:Int)
 rl:c.rules.length≤16
 nl:c.aY= -1→c.rules.length=0
 mo:∀m∈c.aj,1≤m∧m≤40
 per:(ng c.rules 1).isSome=true
def vC (c:Cal):Bool:=decide (0≤c.aI∧c.aI≤1048576)&&(decide (1≤c.aj.length∧c.aj.length≤16)&&(decide (-1≤c.aY∧c.aY<(c.aj.length:Int))&&(decide (c.rules.length≤16)&&(decide (c.aY= -1→c.rules.length=0)&&(c.aj.all (fun m=>decide (1≤m∧m≤40))&&(ng c.rules 1).isSome)))))
theorem Hy (c:Cal):vC c=true↔kZ c:=by
 unfold vC;simp only [Bool.and_eq_true,decide_eq_true_eq,List.all_eq_true];exact ⟨fun ⟨h1,h2,h3,h4,h5,h6,h7⟩=>⟨h1,h2,h3,h4,h5,h6,h7⟩,fun ⟨h1,h2,h3,h4,h5,h6,h7⟩=>⟨h1,h2,h3,h4,h5,h6,h7⟩⟩
theorem DK {c:Cal} (h:kZ c):vC c=true:=(Hy c).2 h
theorem Va {c:Cal} (h:¬kZ c):vC c=false:=by
 cases e:vC c with
 |false=>rfl
 |true=>exact absurd ((Hy c).1 e) h
theorem oG (c:Cal) (A R:Option Addr) (a r:Nat) (w:World) (h:oC w w.heap.size A R c):Calls Tryz.prog 53 #[.agg (aG c A a R r)] w (Gives (.bool (vC c)) w):=by
 obtain ⟨nr,hnr⟩:∃n,c.rules.length=n:=⟨_,rfl⟩;obtain ⟨n,hn⟩:∃n,c.aj.length=n:=⟨_,rfl⟩;have Ef:=ae (fun (h16:nr≤16) (W:World) (hb:Below w.heap.size w W)=>JL c.rules R r nr W ((h.rules.keep hb).more hb.size) hnr (by omega));have e0:aG c A a R r= #[I c.aI, .slice A n a,I c.aY, .slice R nr r]:=by rw [←hn,←hnr];rfl
 rw [e0];have HV:=ae (kT.start w #[I c.aI, .slice A n a,I c.aY, .slice R nr r] 47);obtain ⟨lp,hlp⟩:∃l,c.aY=l:=⟨_,rfl⟩;obtain ⟨ep,rO⟩:∃l,c.aI=l:=⟨_,rfl⟩;rw [hlp,rO] at HV ⊢;have HM:=ae h.aj;have KJ:=ae (show c.aj.length=n∧c.rules.length=nr∧c.aY=lp∧c.aI=ep from ⟨hn,hnr,hlp,rO⟩);by_cases hbad:ep<0∨1048576<ep∨n<1∨16<n∨lp< -1∨(n:Int)≤lp∨16<nr∨(lp= -1∧0<nr)
 ·have HF:Hid (vC c=false):=ae (Va fun hg=>by
   have h1:=hg.ep;have h2:=hg.ml;have h3:=hg.lp;have h4:=hg.rl;have h5:=hg.nl;omega)
  have hb4:ep<0∨(¬ep<0∧1048576<ep)∨(¬ep<0∧¬1048576<ep∧(n:Int)<1)∨(¬ep<0∧¬1048576<ep∧¬(n:Int)<1∧(16:Int)<(n:Int))∨(¬ep<0∧¬1048576<ep∧¬(n:Int)<1∧¬(16:Int)<(n:Int)∧lp< -1)∨(¬ep<0∧¬1048576<ep∧¬(n:Int)<1∧¬(16:Int)<(n:Int)∧¬lp< -1∧(n:Int)≤lp)∨(¬ep<0∧¬1048576<ep∧¬(n:Int)<1∧¬(16:Int)<(n:Int)∧¬lp< -1∧¬(n:Int)≤lp∧(16:Int)<(nr:Int))∨(¬ep<0∧¬1048576<ep∧¬(n:Int)<1∧¬(16:Int)<(n:Int)∧¬lp< -1∧¬(n:Int)≤lp∧¬(16:Int)<(nr:Int)∧lp= -1∧(0:Int)<(nr:Int)):=by omega
  clear hbad h hnr hn hlp rO e0 Ef HM;rcases hb4 with g1|⟨g1,g2⟩|⟨g1,g2,g3⟩|⟨g1,g2,g3,g4⟩|⟨g1,g2,g3,g4,g5⟩|⟨g1,g2,g3,g4,g5,g6⟩|⟨g1,g2,g3,g4,g5,g6,g7⟩|⟨g1,g2,g3,g4,g5,g6,g7,g8,g9⟩
  all_goals
   try subst g8
   go_enter Tryz.func53,Tryz.ntmps53;go_wp2_with fail;go_ret;exact ⟨by rw [HF.out];rfl,HV.out.up⟩
 ·have g1:¬ep<0:=fun h=>hbad (.inl h);have g2:¬1048576<ep:=fun h=>hbad (.inr (.inl h));have g3:¬(n:Int)<1:=by omega
  have g4:¬(16:Int)<(n:Int):=by omega
  have g5:¬lp< -1:=by omega
  have g6:¬(n:Int)≤lp:=by omega
  have g7:¬(16:Int)<(nr:Int):=by omega
  have hnb:Hid (nr≤16∧1≤n∧n≤16):=ae (by omega);have hsp:((lp== -1)=true∧¬(0:Int)<(nr:Int))∨(lp== -1)=false:=by
   by_cases h:lp= -1
   ·exact .inl ⟨by simp [h],by omega⟩
   ·exact .inr (by simpa using h)
  have YQ:=ae (Ef.out (by omega));have HGD:Hid (0≤ep∧ep≤1048576∧1≤n∧n≤16∧ -1≤lp∧lp<(n:Int)∧nr≤16∧(lp= -1→nr=0)):=ae (by omega);clear hbad h hnr hn hlp rO e0 Ef;rcases hsp with ⟨t0,g9⟩|t0
  all_goals
   go_enter Tryz.func53,Tryz.ntmps53;go_wp2_with fail
   go_loopw [52] (fun i wr=>∃k:Nat,k≤n∧i=I (k:Int)∧(∀m∈c.aj.take k,1≤m∧m≤40)∧(Row wr w.heap.size #[I ep, .slice A n a,I lp, .slice R nr r]∧Below w.heap.size w wr)) (fun i _=>n - (intOf i).toNat)
   case atStart=>exact ⟨0,Nat.zero_le _,rfl,(fun _ h=>nomatch h),HV.out.row,HV.out.up⟩
   case round=>
    obtain ⟨k,hk,rfl,hall,hrow,hb⟩:=hrel;have HB:=ae hb;have HAL:=ae hall;have HRW:=ae hrow;clear hb hall hrow HV;by_cases hlt:k<n
    ·have i0:(0:Int)≤(k:Int):=by omega
     have i1:(k:Int)<(n:Int):=by omega
     obtain ⟨x,hx⟩:∃x,c.aj[k]? =some x:=⟨_,dK (by rw [KJ.out.1];exact hlt)⟩;obtain ⟨b,off,rfl,hbl,hcl⟩:=HM.out.there (by rw [List.length_map,KJ.out.1];omega);have f0:wr.cell? ⟨b,off+k,none⟩=some (I x):=(HB.out.cell (p:=⟨b,off+k,none⟩) hbl).trans (hcl k _ (by rw [List.getElem?_map,hx];rfl));have HX:=ae hx;clear hx hcl;by_cases hxb:x<1∨40<x
     ·have HF:Hid (vC c=false):=ae (Va fun hg=>by
       have h1:=hg.mo x (gz HX.out);omega)
      have hx4:x<1∨(¬x<1∧40<x):=by omega
      clear hxb;rcases hx4 with q1|⟨q1,q2⟩
      all_goals
       go_wp2_with fail;go_ret;exact ⟨by rw [HF.out];rfl,HB.out⟩
     ·have q1:¬x<1:=fun h=>hxb (.inl h);have q2:¬40<x:=fun h=>hxb (.inr h);have HN:Hid (∀m∈c.aj.take (k+1),1≤m∧m≤40):=ae (by
       rw [jJ c.aj k x HX.out];intro m hm;rcases List.mem_append.1 hm with h1|h1
       ·exact HAL.out m h1
       ·rw [List.mem_singleton.1 h1];omega)
      clear hxb;go_wp2_with fail;go_roundw
      case rel=>exact ⟨k+1,by omega,by have h16:=hnb.out;go_num,HN.out,HRW.out,HB.out⟩
      case measure=>simp [intOf];have h16:=hnb.out;omega
    ·have hkn:k=n:=by omega
     have hlt':¬(k:Int)<(n:Int):=by omega
     have HAM:Hid (∀m∈c.aj,1≤m∧m≤40):=ae (by
      have h:=HAL.out
      rwa [List.take_of_length_le (by rw [KJ.out.1];omega)] at h)
     have v3:=HRW.out.2 3;clear hlt hkn;go_wp2_with fail;refine (YQ.out wr HB.out).mono ?_;rintro e w1 ⟨rfl,hb1⟩;have HB1:=ae (ah HB.out hb1);clear hb1 YQ;obtain ⟨p,hp⟩:∃p,ng c.rules 1=p:=⟨_,rfl⟩;have lV:=ae hp;rw [hp];clear hp;cases p with
     |none=>
      have HF:Hid (vC c=false):=ae (Va fun hg=>by
       have h1:=hg.per;rw [lV.out] at h1;cases h1)
      unfold XO;go_wp2_with fail;go_ret;exact ⟨by rw [HF.out];rfl,HB1.out⟩
     |some y=>
      have HF:Hid (vC c=true):=ae (DK (by
       have h1:=HGD.out;have h2:=KJ.out;exact ⟨by omega,by omega,by omega,by omega,fun h=>by omega,HAM.out,by rw [lV.out];rfl⟩))
      unfold XO;go_wp2_with fail;go_ret;exact ⟨by rw [HF.out];rfl,HB1.out⟩
end Go.Proofs.YtdibbemgpikgjaaGreat
