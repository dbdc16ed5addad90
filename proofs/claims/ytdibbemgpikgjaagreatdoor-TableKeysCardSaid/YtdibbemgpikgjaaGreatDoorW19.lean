/- The texts TrR, TrS, Lc, Kj, in this order. -/
import Derived.Test.YtdibbemgpikgjaaGreatDoorW00
import Derived.Defers
import Derived.Recover
import Derived.Test.YtdibbemgpikgjaaGreatDoorW01
import Derived.Test.YtdibbemgpikgjaaGreatDoorW04
import Derived.Test.YtdibbemgpikgjaaGreatDoorW14
import Derived.Test.YtdibbemgpikgjaaGreatDoorW15
import Derived.Test.YtdibbemgpikgjaaGreatDoorW18
set_option maxRecDepth 10000
set_option maxHeartbeats 8000000
namespace Go.Proofs.YtdibbemgpikgjaaGreatDoor
open Go Go.RowKit
theorem qV {P:Program} {fn:Func} {p q:Tmp} {t1 t2:TypeId} (h:fn.results= #[.cell p t1, .cell q t2]) (tmps:Array Value) (w:World) (g g2:Nat) (t:TypeId) (cs:Array Value) (fr:Nat×Nat) (d:TypeDesc) (v:Value)
  (hp:tmps.getD p undef= .pointer (some ⟨g,0,none⟩)) (hg:w.heap[g]? =some (.cells cs t fr)) (hu:P.underlying t1=some d) (hd:(match d with| .struct _| .array _ _=>true|_=>false)=true) (hi:(P.info? t1).map (·.size)=some cs.size)
  (hq:tmps.getD q undef= .pointer (some ⟨g2,0,none⟩)) (hv:(loadVar t2 ⟨g2,0,none⟩).run P w= .ok v w):
  (results fn tmps).run P w= .ok (.tuple #[.agg cs,v]) w:=by
 have hp':tmps[p]?.getD undef= .pointer (some ⟨g,0,none⟩):=by simpa using hp
 have hq':tmps[q]?.getD undef= .pointer (some ⟨g2,0,none⟩):=by simpa using hq
 simp [results,h,hp',hq',asAddr,run_loadVar_row w g t t1 cs fr d hg hu hd hi,hv]
theorem Jh (p:Addr) (w:World):
  CallsD Tryz.prog 56 #[.pointer (some p)] .returning w fun e u' w'=>e= .returned (.tuple #[])∧u'= .returning∧w'=w:=by
 have hnn:∀w,(binOp .neq 20 .nilIface .nilIface).run Tryz.prog w= .ok (.bool false) w:=fun w=>Lib.run_neq_nil_nil w Tryz.underlying20;refine callsD_of_wpS Tryz.func56 rfl fun c₀ cs hu=>?_;apply wpS_seq;apply wpS_region;simp [wpOpsS,go_sem,recoverD,hu,Tryz.ntmps56,Exit.thenS];apply wpS_seq;apply wpS_region;simp [wpOpsS,go_sem,hnn,Exit.thenS];refine wpS_cond (t:=false) (by simp [Act.eval,Array.replicate]) ?_;simp only [Bool.false_eq_true,if_false];refine wpS_of_wp (wp_skip ?_);cases c₀
 simp_all [bodyPostS,results,Tryz.results56]
section
variable {P:Program} {ops:Array Oper} {Q:Exit→Act→World→Prop} {md:Region.Mode} {S:World→Prop} {i:Nat} {oi:Oper} {v:Value} {fuel:Nat} {listed:Array Bool} {a:Act} {w:World}
theorem WV (d:Option Tmp) (hi:ops[i]? =some oi) (hd:oi.dst=d)
  (hs:Region.noSelect ops=true) (hf:Region.free md ops listed i=true) (hr:(Region.ready md ops listed).contains i=true)
  (hQ:∀c a w,Q (.panic c) (a.put d v) w→Q (.panic c) a w) (hy:YieldsIf P ops S oi v a) (hS:S w)
  (h:wpAnyH P md ops Q S fuel (listed.setIfInBounds i true) (a.put d v) w):wpAnyH P md ops Q S (fuel+1) listed a w:=by
 subst hd;exact wpAnyH_take hi hs hf hr hQ hy hS h
theorem zT (hr:Region.ready md ops listed= [i]) (ho:ops[i]? =some oi) (hw:Region.wanted oi (yielded ops a.tmps)=true) (ty:TypeId) (x y:Operand) (hop:oi.op= .store ty x y) (hd:oi.dst=none)
  (g:Nat) (cells:Array Value) (hx:a.eval x= .pointer (some ⟨g,0,none⟩)) (hy:a.eval y= .agg cells) (t:TypeId) (old:Array Value) (hg:w.heap[g]? =some (.cells old t (0,0))) (hi:(P.info? ty).map (·.size)=some cells.size) (hold:old.size=cells.size) (h1:cells.all (·.oneCell')=true)
  (hS:S (w.setRow g cells)) (h:S (w.setRow g cells)→wpAnyH P md ops Q S fuel (listed.setIfInBounds i true) a (w.setRow g cells)):wpAnyH P md ops Q S (fuel+1) listed a w:=by
 refine wpAnyH_ready (rs:= [i]) hr (by simp) ?_;refine AllReadyH.cons ho (fun K hK=>?_) AllReadyH.nil;rw [if_pos hw];refine wp_store_row ty x y hop g cells hx hy t old hg hi hold h1 ?_;rw [hd];exact hK.out a _ hS h
end
theorem dU.grown {M:Nat} {w0 w w':World} {rb pb:Nat} {t:TypeId} {cs:Array Value} (h:dU w rb pb t cs w') (hb:Below M w0 w) (h1:M≤pb) (h2:M≤rb) (hp:pb<w.heap.size):Below M w0 w':=
 hb.trans ⟨h.os,h.tape,h.output,h.size,fun k hk=>h.block k (by omega) (by omega) (by omega)⟩
def TrdR (w:World) (t:Tb) (n:Nat) (e:Ending) (w':World):Prop:=
 ∃A c ys,e= .returned (.tuple #[.agg (ai {t with bz:=aX} (.slice A n c)), .bool true])∧gK w.heap.size w' (.slice A n c) ys∧ys.map (·.e)=t.aS∧Below w.heap.size w w'
theorem MK (w:World) (t:Tb) (n N b off c:Nat) (h:kN t) (hn:t.aS.length=n) (hN:(eX t).length=N) (hbl:b<w.heap.size) (hc1:N≤c) (hc2:c≤9223372036854775807)
  (hA:∀j,j<N→w.cell? ⟨b,off+j,none⟩=some (Extern.Stop.cell ((eX t)[j]?.getD 0))):
  Calls Tryz.prog 35 #[.slice (some ⟨b,off,none⟩) N c] w (TrdR w t n):=by
 have hmf:∀(fn:Fn) (first cap:Array Value) (w:World),(Instr.makeFunc fn first cap).run Tryz.prog w= .ok (.func fn first cap) w:=fun _ _ _ _=>rfl;have HF:=ae h;have ed:Hid (∀v,(Tryz.prog.info? 37).map (·.size)=some (ai {t with bz:=aX} v).size):=ae fun v=>cu _ v h.prev rfl;have HN:=ae hn;have Dl:=ae hN;obtain ⟨W,hW⟩:∃W,((w.alloc (.cells (ai bQ (.slice none 0 0)) 37)).alloc (.cells #[.bool false] 4)).alloc (.cells #[.slice (some ⟨b,off,none⟩) N c] 135)=W:=⟨_,rfl⟩;have hB:Below w.heap.size w W:=by rw [←hW];exact (((Below.refl _ w).alloc (Nat.le_refl _) _).alloc (by simp) _).alloc (by simp;omega) _
 have hs:W.heap.size=w.heap.size+3:=by rw [←hW];simp
 have ht:W.heap[w.heap.size]? =some (.cells (ai bQ (.slice none 0 0)) 37 (0,0)):=by rw [←hW];exact (Below.heap_alloc _ _ _ (by simp;omega)).trans (heap_alloc2_old w _ _)
 have ho:W.heap[w.heap.size+1]? =some (.cells #[.bool false] 4 (0,0)):=by rw [←hW];exact (Below.heap_alloc _ _ _ (by simp)).trans (heap_alloc2_new w _ _)
 have hr:jW w.heap.size W (w.heap.size+2) (eX t++ []):=by
  rw [List.append_nil];refine ⟨⟨b,off,c,?_,by rw [hN];exact hc1,hc2,hbl,fun j hj=>(hB.cell (p:=⟨b,off+j,none⟩) hbl).trans (hA j (by omega))⟩,by omega⟩;rw [←hW,hN];have:=heap_alloc_last ((w.alloc (.cells (ai bQ (.slice none 0 0)) 37)).alloc (.cells #[.bool false] 4)) (.cells #[.slice (some ⟨b,off,none⟩) N c] 135);simpa using this
 have HB:=ae hB;have HS:=ae hs;have HO:=ae ho;have HC:=ae (WI w.heap.size W (w.heap.size+2) w.heap.size n t [] h hn hr ht (Nat.le_refl _) (by omega));clear h hn hN hA hB hs ht ho hr
 go_enter_defers Tryz.func35,Tryz.ntmps35
 go_wp2_with fail;rw [oM,hW];refine HC.out.mono ?_;rintro e w2 ⟨rfl,A,cz,ys,hr2,hp2,hz2,he2⟩;have hs0:=HS.out;have ho2:w2.heap[w.heap.size+1]? =some (.cells #[.bool false] 4 (0,0)):=(hp2.block _ (by omega) (by omega) (by omega)).trans HO.out;have HB2:=ae (hp2.grown HB.out (Nat.le_refl _) (by omega) (by omega));have HV:=ae hp2.tgt;have HZ2:=ae (hz2.lower (lo':=w.heap.size+3) (by omega));have HRW:=ae (Row.jF hp2.tgt);have rC:=ae ho2;have HE2:=ae he2;have hlt2:w.heap.size+3≤w2.heap.size:=by have:=hp2.size;omega
 obtain ⟨bb,o2,c2,hq,_⟩:=hr2.at_;have hc2:w2.cell? ⟨w.heap.size+1+1,0,none⟩=some (.slice (some ⟨bb,o2,none⟩) 0 c2):=cell_of_row w2 (w.heap.size+2) 0 _ _ _ hq;clear hr2 hp2 hz2 he2 ho2 hW HC hq HO HB HS;go_wp2_with fail;refine wp_region_noPanic ?_;refine wp_region_held_drew (S:=fun W=>Row W w.heap.size (ai {t with bz:=aX} (.slice A n cz))∧W.cell? ⟨w.heap.size+1+1,0,none⟩=some (.slice (some ⟨bb,o2,none⟩) 0 c2)) (by kernel_rfl) ⟨⟨HRW.out.1,HRW.out.2⟩,hc2⟩ (fun hH=>?_);refine gJ 0 _ 12 rfl rfl hH (yieldsIf_load_mid (by rfl) _ _ rfl w.heap.size 0 rfl (ai {t with bz:=aX} (.slice A n cz)).toList _ (fun W hW j v hv=>by rw [Nat.zero_add,hW.1.2 j];simpa using hv) Tryz.underlying37 rfl (by rw [ed.out,Array.length_toList])) ?_;refine ax ?_;refine fC 1 (pt (w.heap.size+1+1)) 13 rfl rfl hH (fun W hW=>by obtain ⟨_,hW2⟩:=hW;go_simp) ?_;refine ax ?_;refine fC 2 (pt (w.heap.size+1+1)) 14 rfl rfl hH (fun W hW=>by obtain ⟨_,hW2⟩:=hW;go_simp) ?_;refine ax ?_;refine fC 3 (pt (w.heap.size+1+1)) 15 rfl rfl hH (fun W hW=>by obtain ⟨_,hW2⟩:=hW;go_simp) ?_;refine ax ?_;refine fC 4 (.slice (some ⟨bb,o2,none⟩) 0 c2) 16 rfl rfl hH (fun W hW=>by obtain ⟨_,hW2⟩:=hW;go_simp) ?_;refine ax ?_;refine fC 5 (I 0) 17 rfl rfl hH (fun W hW=>by obtain ⟨_,hW2⟩:=hW;go_simp) ?_;refine ax ?_;refine fC 6 (.bool true) 18 rfl rfl hH (fun W hW=>by obtain ⟨_,hW2⟩:=hW;go_simp) ?_;refine ax ?_;have hv2:w2.drew.heap[w.heap.size]? =some (.cells (ai {t with bz:=aX} (.slice A n cz)) 37 (0,0)):=HV.out;have HW3:Hid ((w2.drew.setRow w.heap.size (ai {t with bz:=aX} (.slice A n cz))).heap[w.heap.size]? =some (.cells (ai {t with bz:=aX} (.slice A n cz)) 37 (0,0))):=ae (setRow_heap _ _ _ _ _ _ hv2);have mQ:Hid (∀k,k≠w.heap.size→(w2.drew.setRow w.heap.size (ai {t with bz:=aX} (.slice A n cz))).heap[k]? =w2.heap[k]?):=ae fun k hk=>setRow_other _ _ k _ hk;have XB:Hid ((w2.drew.setRow w.heap.size (ai {t with bz:=aX} (.slice A n cz))).heap.size=w2.heap.size):=ae (by show (w2.setRow w.heap.size _).heap.size=_;simp [World.setRow]);have HD3:Hid ((w2.drew.setRow w.heap.size (ai {t with bz:=aX} (.slice A n cz))).os=w2.os∧(w2.drew.setRow w.heap.size (ai {t with bz:=aX} (.slice A n cz))).tape=w2.tape∧(w2.drew.setRow w.heap.size (ai {t with bz:=aX} (.slice A n cz))).output=w2.output):=ae ⟨rfl,rfl,rfl⟩;have hc3:(w2.drew.setRow w.heap.size (ai {t with bz:=aX} (.slice A n cz))).cell? ⟨w.heap.size+1+1,0,none⟩=some (.slice (some ⟨bb,o2,none⟩) 0 c2):=(World.cell?_of_block (a:=⟨w.heap.size+1+1,0,none⟩) (mQ.out _ (by show w.heap.size+1+1≠w.heap.size;omega))).trans hc2;refine zT (i:=7) (by kernel_rfl) rfl (by rfl) _ _ _ rfl rfl w.heap.size (ai {t with bz:=aX} (.slice A n cz)) rfl rfl 37 (ai {t with bz:=aX} (.slice A n cz)) hv2 (ed.out _) rfl (bu _ _ _ _) ⟨Row.jF HW3.out,hc3⟩ (fun hH3=>?_);clear hH hH3;generalize w2.drew.setRow w.heap.size (ai {t with bz:=aX} (.slice A n cz))=w3 at HW3 mQ XB HD3 hc3 ⊢;have ho3:w3.heap[w.heap.size+1]? =some (.cells #[.bool false] 4 (0,0)):=(mQ.out _ (by omega)).trans rC.out;have hcc:=cell_of_row _ (w.heap.size+1) 0 _ _ _ ho3;have hfc:=frozen_of_row _ (w.heap.size+1) 0 _ _ ho3;have wU:=ae ho3;have hS4:Row (w3.setCell ⟨w.heap.size+1,0,none⟩ (.bool true)) w.heap.size (ai {t with bz:=aX} (.slice A n cz))∧(w3.setCell ⟨w.heap.size+1,0,none⟩ (.bool true)).cell? ⟨w.heap.size+1+1,0,none⟩=some (.slice (some ⟨bb,o2,none⟩) 0 c2):=
  ⟨Row.jF ((heap_setCell_other w3 _ w.heap.size _ (by show w.heap.size≠w.heap.size+1;omega)).trans HW3.out),(World.cell?_of_block (a:=⟨w.heap.size+1+1,0,none⟩) (heap_setCell_other w3 _ _ _ (by show w.heap.size+1+1≠w.heap.size+1;omega))).trans hc3⟩
 have Ac:=ae hS4;clear hv2 ho3 hS4;refine aU 8 (fun K hK=>?_);go_simp;refine hK.out _ _ Ac.out (fun hH4=>?_);refine wpAnyH_done (by kernel_rfl) ?_ _;refine NoPanic.normal ?_;clear hK K hH4;go_wp2_with fail;refine leaves_cons (f:=56) (args:= #[.pointer (some ⟨w.heap.size+1,0,none⟩)]) (by simp) (by simp [go_sem]) ?_;refine (Jh _ _).mono ?_;rintro e u' UJ ⟨rfl,rfl,rfl⟩;have hbl:∀k,k≠w.heap.size→k≠w.heap.size+1→(w3.setCell ⟨w.heap.size+1,0,none⟩ (.bool true)).heap[k]? =w2.heap[k]? :=fun k h1 h2=>
  (heap_setCell_other _ _ k _ h2).trans (mQ.out k h1)
 have hsz:(w3.setCell ⟨w.heap.size+1,0,none⟩ (.bool true)).heap.size=w2.heap.size:=by rw [←XB.out];simp [World.setCell]
 have hv4:(w3.setCell ⟨w.heap.size+1,0,none⟩ (.bool true)).heap[w.heap.size]? =some (.cells (ai {t with bz:=aX} (.slice A n cz)) 37 (0,0)):=(heap_setCell_other w3 ⟨w.heap.size+1,0,none⟩ w.heap.size _ (by show w.heap.size≠w.heap.size+1;omega)).trans HW3.out;have hc4:=cell_of_row _ (w.heap.size+1) 0 _ _ _ (heap_setCell_same _ (w.heap.size+1) 0 _ _ (.bool true) wU.out);refine ⟨_,qV rfl _ _ w.heap.size (w.heap.size+1) _ (ai {t with bz:=aX} (.slice A n cz)) (0,0) _ (.bool true) rfl hv4 Tryz.underlying37 rfl (ed.out _) rfl (iZ _ _ _ hc4),A,cz,ys,rfl,?_,HE2.out,?_⟩
 ·exact (HZ2.out.aP (Nat.le_of_eq hsz.symm) fun k h1 h2=>hbl k (by omega) (by omega)).lower (by omega)
 ·exact HB2.out.trans ⟨HD3.out.1,HD3.out.2.1,HD3.out.2.2,Nat.le_of_eq hsz.symm,fun k hk=>hbl k (by omega) (by omega)⟩
def Zi (w:World) (t:Tb) (n:Nat) (e:Ending) (w':World):Prop:=
 ∃A c ys,e= .returned (.tuple #[.agg (ai {t with bz:=aX} (.slice A n c)),I 0])∧gK w.heap.size w' (.slice A n c) ys∧ys.map (·.e)=t.aS∧Below w.heap.size w w'
theorem kN.mac0 {t:Tb} (h:kN t):kN {t with bz:=aX}:=⟨h.aT,h.version,h.aJ,h.prev,rfl,h.first,h.num,h.flat,h.short⟩
theorem Ci (w:World) (t:Tb) (n N b off c:Nat) (h:kN t) (hn:t.aS.length=n) (hN:(eX t).length=N) (hup:∀ys:List dD,ys.map (·.e)=t.aS→mW ys) (hbl:b<w.heap.size) (hc1:N≤c) (hc2:c≤9223372036854775807)
  (hA:∀j,j<N→w.cell? ⟨b,off+j,none⟩=some (Extern.Stop.cell ((eX t)[j]?.getD 0))):
  Calls Tryz.prog 20 #[.slice (some ⟨b,off,none⟩) N c] w (Zi w t n):=by
 have HF:=ae h.mac0;have ed:Hid (∀v,(Tryz.prog.info? 37).map (·.size)=some (ai {t with bz:=aX} v).size):=ae fun v=>cu _ v h.prev rfl;have uV:Hid (∀v,(ai bQ (.slice none 0 0)).size=(ai {t with bz:=aX} v).size):=ae fun v=>by exact (bF bQ _ rfl rfl).trans (bF {t with bz:=aX} v h.prev rfl).symm
 have HN:=ae hn;have Dl:=ae hN;have NC:=ae hup;obtain ⟨W,hW⟩:∃W,w.alloc (.cells (ai bQ (.slice none 0 0)) 37)=W:=⟨_,rfl⟩;have hB:Below w.heap.size w W:=by rw [←hW];exact (Below.refl _ w).alloc (Nat.le_refl _) _
 have hs:W.heap.size=w.heap.size+1:=by rw [←hW];simp
 have ht:W.heap[w.heap.size]? =some (.cells (ai bQ (.slice none 0 0)) 37 (0,0)):=by rw [←hW];exact heap_alloc_last w _
 have HA:=ae hA;have HB:=ae hB;have HS:=ae hs;have HT:=ae ht;have HC:=ae (MK W t n N b off c h hn hN (by omega) hc1 hc2 fun j hj=>(hB.cell (p:=⟨b,off+j,none⟩) hbl).trans (hA j hj));have wX:Hid (eX {t with bz:=aX}=eX t):=ae rfl;clear h hn hN hA hB hs ht hup;go_enter Tryz.func20,Tryz.ntmps20;go_wp2_with fail;rw [oM,hW];refine HC.out.mono ?_;rintro e w2 ⟨A,c2,ys,rfl,hz2,he2,hb2⟩;have hs0:=HS.out;have HZ2:=ae hz2;have HE2:=ae he2;have sN:=ae (ah HB.out hb2);have HT2:Hid (w2.heap[w.heap.size]? =some (.cells (ai bQ (.slice none 0 0)) 37 (0,0))):=ae ((hb2.block _ (by omega)).trans HT.out);have hl2:w.heap.size+1≤w2.heap.size:=by have:=hb2.size;omega
 clear hz2 he2 hb2 hW HC HB HS HT;go_wp2_with (first
  |(with_reducible refine bn 37 ?_;refine dh rfl _ rfl (ai bQ (.slice none 0 0)) oM ?_)
  |(with_reducible refine bW 37 ?_;refine fE rfl _ _ _ rfl (ai {t with bz:=aX} (.slice A n c2)) rfl rfl 37 (ai bQ (.slice none 0 0)) rfl (ed.out _) (uV.out _) (bu _ _ _ _) ?_;intro W3 hb3 hl3 hr3;have HB3:=ae hb3;have HR3:=ae hr3;have HZ3:=ae (HZ2.out.below hb3);clear hb3 hr3)
  |(with_reducible refine dY 37 ?_;refine aV rfl _ _ rfl w2.heap.size rfl (ai {t with bz:=aX} (.slice A n c2)) HR3.out _ Tryz.underlying37 rfl (ed.out _) ?_))
 refine (sF {t with bz:=aX} A n c2 W.heap.size ys W3 HF.out HE2.out.symm (by rw [←HN.out,←HE2.out,List.length_map]) HZ3.out (NC.out ys HE2.out)).mono ?_;rintro e w4 ⟨⟨g4,c4,rfl,Z9⟩,hb4⟩;rw [wX.out,Dl.out] at Z9 ⊢;have hb3w:=sN.out.trans (HB3.out.mono (by omega));have ZP:=hb3w.trans (hb4.mono (by omega));have HB4:=ae ZP;have HR4:Hid (Row w4 w2.heap.size (ai {t with bz:=aX} (.slice A n c2))):=ae (HR3.out.keep hb4);have Kv:Hid (gK W.heap.size w4 (.slice A n c2) ys):=ae (HZ3.out.below hb4);have HT4:Hid (w4.heap[w.heap.size]? =some (.cells (ai bQ (.slice none 0 0)) 37 (0,0))):=ae ((hb4.block _ (by omega)).trans ((HB3.out.block _ (by omega)).trans HT2.out));have h1:BytesAt w4 w4.heap.size (some ⟨g4,0,none⟩) (eX t):=by
  obtain ⟨A',c',hv,_,_,_,hy⟩:=Ie (bs:=eX t) (by rw [Dl.out];exact Z9);injection hv with e1 e2 e3;subst e1;exact hy
 have h2:BytesAt w4 w.heap.size (some ⟨b,off,none⟩) (eX t):= .inr ⟨b,off,rfl,hbl,fun j hj=>(ZP.cell (p:=⟨b,off+j,none⟩) hbl).trans (HA.out j (by have:=Dl.out;omega))⟩;have HEQ:Hid (Calls Tryz.prog 36 #[.slice (some ⟨g4,0,none⟩) N c4, .slice (some ⟨b,off,none⟩) N c] w4 fun e w'=>e= .returned (.bool true)∧w'=w4):=ae (by
  have h:=Bv w4 (some ⟨g4,0,none⟩) (some ⟨b,off,none⟩) (eX t) (eX t) c4 c _ _ h1 h2;rw [Dl.out] at h;simpa using h)
 clear Z9 hb4 hb3w ZP h1 h2 HB3 HR3 HZ3 HT2 HZ2 sN;go_wp2_with fail;refine HEQ.out.mono ?_;rintro e w5 ⟨rfl,rfl⟩;go_wp2_with (first
  |(with_reducible refine dY 37 ?_;refine aV rfl _ _ rfl w2.heap.size rfl (ai {t with bz:=aX} (.slice A n c2)) HR4.out _ Tryz.underlying37 rfl (ed.out _) ?_)
  |(with_reducible refine bW 37 ?_;refine wpList_store_row rfl _ _ _ rfl w.heap.size (ai {t with bz:=aX} (.slice A n c2)) rfl rfl 37 (ai bQ (.slice none 0 0)) HT4.out (ed.out _) (uV.out _) (bu _ _ _ _) ?_))
 refine bodyPost_ret (v:= .tuple #[.agg (ai {t with bz:=aX} (.slice A n c2)),I 0]) (bI rfl _ _ w.heap.size _ (ai {t with bz:=aX} (.slice A n c2)) (0,0) _ rfl (setRow_heap _ _ _ _ _ _ HT4.out) Tryz.underlying37 rfl (ed.out _) _ rfl) rfl ?_;refine ⟨A,c2,ys,rfl,(Kv.out.aP ?_ fun k h1 h2=>setRow_other _ _ k _ (by omega)).lower (by omega),HE2.out,below_setRow HB4.out (Nat.le_refl _) _⟩;simp [World.setRow]
def xA (cs:Array Value) (o:Nat):List Value→Array Value
 | []=>cs
 |v::r=>xA (cs.setIfInBounds o v) (o+1) r
theorem EK:∀(vs pre old:List Value),old.length=vs.length→xA (pre++old).toArray pre.length vs=(pre++vs).toArray
 | [],pre,old,h=>by
  have:old= []:=List.eq_nil_of_length_eq_zero h;simp [xA,this]
 |v::r,pre,old,h=>by
  obtain ⟨x,old',rfl⟩:∃x old',old=x::old':=by
   cases old with
   |nil=>simp at h
   |cons x o=>exact ⟨x,o,rfl⟩
  have h2:=EK r (pre++ [v]) old' (by simpa using h);have e:(pre++x::old').toArray.setIfInBounds pre.length v=((pre++ [v])++old').toArray:=by simp
  unfold xA;rw [e];simpa using h2
theorem vP:∀(vs:List Value) (w:World) (b o:Nat) (cs:Array Value) (t:TypeId),w.heap[b]? =some (.cells cs t (0,0))→(w.setCells b o vs).heap[b]? =some (.cells (xA cs o vs) t (0,0))
 | [],_,_,_,_,_,h=>h
 |v::r,w,b,o,_,t,h=>vP r _ b (o+1) _ t (heap_setCell_same w b o _ _ v h)
theorem nT:∀(vs:List Value) (w:World) (b o k:Nat),k≠b→(w.setCells b o vs).heap[k]? =w.heap[k]?
 | [],_,_,_,_,_=>rfl
 |v::r,w,b,o,k,h=>(nT r _ b (o+1) k h).trans (heap_setCell_other w _ k v h)
theorem uz:∀(vs:List Value) (w:World) (b o:Nat),(w.setCells b o vs).heap.size=w.heap.size
 | [],_,_,_=>rfl
 |v::r,w,b,o=>(uz r _ b (o+1)).trans (by simp [World.setCell])
theorem nN {B b:Nat} {w0:World} (h:B≤b):∀(vs:List Value) (w:World) (o:Nat),Below B w0 w→Below B w0 (w.setCells b o vs)
 | [],_,_,hb=>hb
 |v::r,_,o,hb=>nN h r _ (o+1) (hb.setCell (p:=⟨b,o,none⟩) h v)
theorem Gp (t:Tb) (v:Value):lg t v=([I t.aT,I t.version,I t.aJ,v]++aj t.prev)++aj t.bz:=by simp [lg]
theorem MJ (t:Tb) (v:Value) (m:List UInt8) (hp:t.prev.length=32) (h1:t.bz.length=32) (h2:m.length=32):xA (ai t v) 36 (aj m)=ai {t with bz:=m} v:=by
 have h:=EK (aj m) ([I t.aT,I t.version,I t.aJ,v]++aj t.prev) (aj t.bz) (by simp [aj,h1,h2]);have hl:([I t.aT,I t.version,I t.aJ,v]++aj t.prev).length=36:=by simp [aj,hp]
 rw [hl] at h;unfold ai;rw [Gp,Gp];exact h
theorem fM:(Tryz.prog.info? 37).map (fun i=>(i.zero,i.size))=some (some (.agg (ai bQ (.slice none 0 0))),(ai bQ (.slice none 0 0)).size):=by kernel_rfl
theorem qL (m:List UInt8) (h:m.length=32):(Tryz.prog.info? 23).map (·.size)=some (cD m).size:=by rw [lH,h];kernel_rfl
theorem Jd (t:Tb) (h:Fj t) (hp:t.prev.length=32):0<(xC t).length∧(xC t).length≤400:=by
 have e:=NY vF t.aS 103 t.aS.length (fun e he=>OB e (h.aS e he).made (by obtain ⟨j,hj⟩:=List.getElem?_of_mem he;rw [h.names j e hj,rZ];omega));rw [List.take_length] at e;have h2:=h.num;unfold xC;simp only [aZ,List.length_cons,List.length_nil,aC,hp];omega
structure Zh (w:World) (ks ts:Array Value) (W:World):Prop where
 k:AV w.heap.size 23 ks W
 t:AV (w.heap.size+1) 37 ts W
 r:AV (w.heap.size+2) 37 (ai bQ (.slice none 0 0)) W
 lo:Below w.heap.size w W
theorem Zh.start (w:World) (ks ts:Array Value):Zh w ks ts (((w.alloc (.cells ks 23)).alloc (.cells ts 37)).alloc (.cells (ai bQ (.slice none 0 0)) 37)):=by
 obtain ⟨W,hW⟩:∃W,(w.alloc (.cells ks 23)).alloc (.cells ts 37)=W:=⟨_,rfl⟩;have hs:W.heap.size=w.heap.size+2:=by rw [←hW];simp
 have hb:Below w.heap.size w W:=by rw [←hW];exact ah (ag w _) (ag _ _)
 have h1:AV w.heap.size 23 ks W:=by rw [←hW];exact ⟨heap_alloc2_old w _ _⟩
 have h2:AV (w.heap.size+1) 37 ts W:=by rw [←hW];exact ⟨heap_alloc2_new w _ _⟩
 have h3:=AV.new W (ai bQ (.slice none 0 0)) 37;rw [hs] at h3;rw [hW];exact ⟨h1.below (ag W _),h2.below (ag W _),h3,ah hb (ag W _)⟩
theorem Zh.grow {w W W':World} {ks ts:Array Value} (h:Zh w ks ts W) (hb:Below W.heap.size W W'):Zh w ks ts W':=⟨h.k.below hb,h.t.below hb,h.r.below hb,ah h.lo hb⟩
theorem AV.setQ {b:Nat} {t:TypeId} {cs:Array Value} {W:World} (h:AV b t cs W) (o:Nat) (vs:List Value):AV b t (xA cs o vs) (W.setCells b o vs):=⟨vP vs W b o cs t h.var⟩
theorem AV.VA {b g:Nat} {t:TypeId} {cs:Array Value} {W:World} (h:AV b t cs W) (hn:b≠g) (o:Nat) (vs:List Value):AV b t cs (W.setCells g o vs):=⟨(nT vs W g o b hn).trans h.var⟩
theorem AV.there {b:Nat} {t:TypeId} {cs:Array Value} {W:World} (h:AV b t cs W) (o n:Nat) (hn:o+n≤cs.size):W.there b o n:=fun j hj=>⟨by rw [h.cell (o+j),Array.getElem?_eq_getElem (by omega)];rfl,h.dV _⟩
def oQ (lo:Nat) (A:Option Addr) (cs:List Value):Prop:=cs.length=0∨∃b off,A=some ⟨b,off,none⟩∧lo≤b
theorem LZ.low {lo lo' B g:Nat} {w:World} {A:Option Addr} {cs:List Value} (h:LZ lo B g w A cs) (hlo:lo'≤lo):oQ lo' A cs:=by
 rcases h with h|⟨b,off,h1,h0,_⟩
 ·exact .inl h
 ·exact .inr ⟨b,off,h1,Nat.le_trans hlo h0⟩
def Bh (lo:Nat) (s:Zs) (z:Zn):Prop:=oQ lo s.A (z.cal.az.map I)∧oQ lo s.B (z.cal.rules.flatMap Lr.cells)∧oQ lo s.C (z.trans.flatMap Tr.cells)∧oQ lo s.D (z.aK.flatMap Yr.cells)
def NJ (w:World) (z:Zn) (e:Ending) (w':World):Prop:=∃s,e= .returned (.agg (ay z s))∧jy w' w'.heap.size s z∧Bh w.heap.size s z∧Below w.heap.size w w'
theorem Di (x:Du) {lo cnt:Nat} {s:Zs} (hp:x.cal.toNat%2=0) (hc:jM x=cnt) (h1:oQ lo s.A [I 7,I 6]) (h3:oQ lo s.C ((iq x.bZ x.dJ cnt).flatMap Tr.cells)):Bh lo s (Ak x):=by
 have e:pq x.cal=⟨2,[7,6], -1,[]⟩:=by unfold pq;rw [if_neg (by omega)]
 refine ⟨?_,?_,?_, .inl rfl⟩
 ·show oQ lo s.A ((pq x.cal).az.map I);rw [e];exact h1
 ·show oQ lo s.B ((pq x.cal).rules.flatMap Lr.cells);rw [e];exact .inl rfl
 ·show oQ lo s.C ((iq x.bZ x.dJ (jM x)).flatMap Tr.cells);rw [hc];exact h3
theorem Dj (x:Du) {lo cnt r:Nat} {s:Zs} (hp:x.cal.toNat%2=1) (hr:x.cal.toNat / 2%2=r) (hc:jM x=cnt) (h1:oQ lo s.A [I 7,I 8]) (h2:oQ lo s.B [I 2,I (r:Int), .bool true]) (h3:oQ lo s.C ((iq x.bZ x.dJ cnt).flatMap Tr.cells)):Bh lo s (Ak x):=by
 have e:pq x.cal=⟨5,[7,8],1,[⟨2,(r:Int),true⟩]⟩:=by unfold pq;rw [if_pos hp,hr]
 refine ⟨?_,?_,?_, .inl rfl⟩
 ·show oQ lo s.A ((pq x.cal).az.map I);rw [e];exact h1
 ·show oQ lo s.B ((pq x.cal).rules.flatMap Lr.cells);rw [e];exact h2
 ·show oQ lo s.C ((iq x.bZ x.dJ (jM x)).flatMap Tr.cells);rw [hc];exact h3
end Go.Proofs.YtdibbemgpikgjaaGreatDoor
