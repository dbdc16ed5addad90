/- The texts TbB, BEq, TrR, Pc, in this order. -/
import Derived.Test.YtdibbemgpikgjaaGreatW00
import Derived.Defers
import Derived.Recover
import Derived.Test.YtdibbemgpikgjaaGreatW01
import Derived.Test.YtdibbemgpikgjaaGreatW05
import Derived.Test.YtdibbemgpikgjaaGreatW07
set_option maxRecDepth 10000
set_option maxHeartbeats 8000000
namespace Go.Proofs.YtdibbemgpikgjaaGreat
open Go Go.RowKit
def BN (w:World) (bs:List UInt8) (e:Ending) (w':World):Prop:=
 (∃g c,e= .returned (.tuple #[.slice (some ⟨g,0,none⟩) bs.length c,I 0])∧w'.ownsRow w.heap.size 5 1 (.slice (some ⟨g,0,none⟩) bs.length c) bs.length (bs.map Extern.Stop.cell))∧Below w.heap.size w w'
theorem sN (t:Tb) (A:Option Addr) (n c lo:Nat) (zs:List dA) (w:World) (h:lF t) (hzz:t.aK=zs.map (·.e)) (hn:zs.length=n) (hO:gX lo w (.slice A n c) zs) (hup:rF zs):
  Calls Tryz.prog 7 #[.agg (ai t (.slice A n c))] w (BN w (fF t)):=by
 have HR0:=ae (Row.new w (ai t (.slice A n c)) 32);have HB0:=ae (ag w (.cells (ai t (.slice A n c)) 32));have HH0:=ae (heap_alloc_last w (.cells (ai t (.slice A n c)) 32));have dR:Hid (∀v,(Tryz.prog.info? 32).map (·.size)=some (ai t v).size):=ae fun v=>bP t v h.prev h.bJ;have KZ:Hid (∀u v,(ai t u).size=(ai t v).size):=ae fun u v=>by rw [aZ _ _ h.prev h.bJ,aZ _ _ h.prev h.bJ]
 have HV:Hid (∀W,Below w.heap.size w W→Calls Tryz.prog 19 #[.agg (ai t (.slice A n c))] W (Gives (I 0) W)):=ae fun W hb=>
  AB t A n c zs W h hzz hn ((hO.below hb).zes) hup
 have gJ:Hid (∀W,Below w.heap.size w W→Calls Tryz.prog 22 #[.agg (ai t (.slice A n c))] W (ClT W t zs)):=ae fun W hb=>by
  have h2:zs.length≤128:=by have:=h.num;rw [hzz,List.length_map] at this;exact this
  subst hn;exact LY t A c lo zs W (fun x hx=>h.flat _ (by rw [hzz];exact List.mem_map_of_mem hx)) h2 h.prev h.bJ (hO.below hb)
 have HF:=ae h;have HZZ:=ae hzz;have HN:=ae hn;clear h hzz hn hO hup;go_enter Tryz.func7,Tryz.ntmps7;go_wp2_with (with_reducible refine dM 32 ?_;refine aV rfl _ _ rfl w.heap.size rfl (ai t (.slice A n c)) HR0.out _ Tryz.underlying32 rfl (dR.out _) ?_);refine (HV.out _ HB0.out).mono ?_;rintro e w1 ⟨rfl,hb1⟩;have HR1:=ae (HR0.out.keep hb1);have HB1:=ae (ah HB0.out hb1);have HH1:Hid (w1.heap[w.heap.size]? =some (.cells (ai t (.slice A n c)) 32 (0,0))):=ae ((hb1.block _ (by simp)).trans HH0.out);clear hb1 HR0 HB0 HH0 HV;go_wp2_with (with_reducible refine dM 32 ?_;refine aV rfl _ _ rfl w.heap.size rfl (ai t (.slice A n c)) HR1.out _ Tryz.underlying32 rfl (dR.out _) ?_);refine (gJ.out _ HB1.out).mono ?_;rintro e w2 ⟨A2,c2,zs2,rfl,hO2,he2,hb2⟩;have mJ:=ae hO2;have HE2:=ae he2;have HH2:Hid (w2.heap[w.heap.size]? =some (.cells (ai t (.slice A n c)) 32 (0,0))):=ae ((hb2.block _ HR1.out.1).trans HH1.out);have HB2:=ae (ah HB1.out hb2);have hl1:w.heap.size<w1.heap.size:=HR1.out.1;rw [HN.out];clear hO2 he2 hb2 gJ;go_wp2_with (with_reducible refine bV 32 ?_;refine wpList_store_row rfl _ _ _ rfl w.heap.size (ai t (.slice A2 n c2)) rfl rfl 32 (ai t (.slice A n c)) HH2.out (dR.out _) (KZ.out _ _) (aT _ _ _ _) ?_);have hw3:(w2.setRow w.heap.size (ai t (.slice A2 n c2))).heap[w.heap.size]? =some (.cells (ai t (.slice A2 n c2)) 32 (0,0)):=setRow_heap _ _ _ _ _ _ HH2.out;have hs3:(w2.setRow w.heap.size (ai t (.slice A2 n c2))).heap.size=w2.heap.size:=by simp [World.setRow]
 have hb3:Below w.heap.size w (w2.setRow w.heap.size (ai t (.slice A2 n c2))):=below_setRow HB2.out (Nat.le_refl _) _;have hz3:gX (w.heap.size+1) (w2.setRow w.heap.size (ai t (.slice A2 n c2))) (.slice A2 n c2) zs2:=by
  have h1:=mJ.out;rw [HN.out] at h1;exact (h1.lower (by omega)).aQ (by rw [hs3];exact Nat.le_refl _) fun k hk _=>setRow_other _ _ k _ (by omega)
 generalize w2.setRow w.heap.size (ai t (.slice A2 n c2))=w3 at hw3 hs3 hb3 hz3 ⊢;rw [←hs3];have hba:=ag w3 (.cells #[.slice none 0 0] 73);have hst:fG (w3.alloc (.cells #[.slice none 0 0] 73)) w3.heap.size (.slice none 0 0) []:=⟨heap_alloc_last w3 _,World.ownsRow_nil _ _ _ _⟩;have hn2:zs2.length=n:=by have:=congrArg List.length HE2.out;simpa [HN.out] using this
 have hl3:w.heap.size<w3.heap.size:=(bY.1 hw3).1;refine (KA (w3.alloc (.cells #[.slice none 0 0] 73)) w3.heap.size w.heap.size n c2 t A2 zs2 (.slice none 0 0) HF.out (by rw [HE2.out];exact HZZ.out) hn2 hl3 ⟨by simp;omega,fun i=>(hba.cell (p:=⟨w.heap.size,i,none⟩) hl3).trans (cell_of_row w3 _ i _ _ _ hw3)⟩ (hz3.low.keep hba) hst).mono ?_;rintro e w4 ⟨rfl,v4,hs4,hk4⟩;have hb4:Below w.heap.size w w4:=(ah hb3 hba).trans ((bI hst hk4).mono (by omega));have hc4:w4.cell? ⟨w3.heap.size,0,none⟩=some v4:=cell_of_row w4 _ 0 _ _ _ hs4.1;have hlen:=JY t HF.out;obtain ⟨g4,c4,rfl,hg4⟩:=eU hs4.2 (by omega);have HB4:=ae hb4;have uZ:=ae (aX hs4.2 (base':=w.heap.size) (by omega));clear hw3 hs3 hb3 hz3 hba hst hn2 hs4 hk4 hb4 hlen hg4;go_wp2_with fail;go_ret2;exact ⟨⟨g4,c4,rfl,uZ.out⟩,HB4.out⟩
def Qz (bs:List UInt8):ByteArray:=⟨bs.toArray⟩
theorem zM (xs:List UInt8):(Qz xs).toList=xs:=by rw [Lib.toList_data];rfl
theorem CE (A:Option Addr) (bs:List UInt8) (c:Nat) (w:World) (B:Nat) (h:BytesAt w B A bs):
  (convert 22 9 (.slice A bs.length c)).run Tryz.prog w= .ok (.string (Qz bs)) w:=by
 have e:Qz bs=strOfNums (bs.map fun x=>(x.toNat:Int)):=by
  unfold Qz strOfNums;congr 1;rw [List.map_map];congr 1;rw [show ((fun n:Int=>UInt8.ofNat n.toNat) ∘ fun x:UInt8=>(x.toNat:Int))=id from by funext x;simp];simp
 rcases h with h|⟨b,off,rfl,_,hc⟩
 ·obtain rfl:=List.eq_nil_of_length_eq_zero h;exact run_convert_bytes_zero w _ _ Tryz.underlying22 Tryz.underlying5 A c _ Tryz.underlying9
 ·rw [e];refine run_convert_bytes_arg w _ _ Tryz.underlying22 Tryz.underlying5 b off bs.length c _ (by simp) (fun i hi=>?_) _ Tryz.underlying9;rw [hc i hi];simp [List.getD,hi,Extern.Stop.cell]
theorem ui (w:World) (A A':Option Addr) (xs ys:List UInt8) (c d B B':Nat) (h1:BytesAt w B A xs) (h2:BytesAt w B' A' ys):
  Calls Tryz.prog 21 #[.slice A xs.length c, .slice A' ys.length d] w fun e w'=>e= .returned (.bool (xs==ys))∧w'=w:=by
 have e1:=CE A xs c w B h1;have e2:=CE A' ys d w B' h2;clear h1 h2;go_enter Tryz.func21,Tryz.ntmps21
 go_wp2
 go_ret;exact ⟨by show Ending.returned (.bool ((Qz xs).toList==(Qz ys).toList))=_;rw [zM,zM],rfl⟩
theorem iV {P:Program} {fn:Func} {p q:Tmp} {t1 t2:TypeId} (h:fn.results= #[.cell p t1, .cell q t2]) (tmps:Array Value) (w:World) (g g2:Nat) (t:TypeId) (cs:Array Value) (fr:Nat×Nat) (d:TypeDesc) (v:Value)
  (hp:tmps.getD p undef= .pointer (some ⟨g,0,none⟩)) (hg:w.heap[g]? =some (.cells cs t fr)) (hu:P.underlying t1=some d) (hd:(match d with| .struct _| .array _ _=>true|_=>false)=true) (hi:(P.info? t1).map (·.size)=some cs.size)
  (hq:tmps.getD q undef= .pointer (some ⟨g2,0,none⟩)) (hv:(loadVar t2 ⟨g2,0,none⟩).run P w= .ok v w):
  (results fn tmps).run P w= .ok (.tuple #[.agg cs,v]) w:=by
 have hp':tmps[p]?.getD undef= .pointer (some ⟨g,0,none⟩):=by simpa using hp
 have hq':tmps[q]?.getD undef= .pointer (some ⟨g2,0,none⟩):=by simpa using hq
 simp [results,h,hp',hq',asAddr,run_loadVar_row w g t t1 cs fr d hg hu hd hi,hv]
theorem uC (p:Addr) (w:World):
  CallsD Tryz.prog 40 #[.pointer (some p)] .returning w fun e u' w'=>e= .returned (.tuple #[])∧u'= .returning∧w'=w:=by
 have hnn:∀w,(binOp .neq 20 .nilIface .nilIface).run Tryz.prog w= .ok (.bool false) w:=fun w=>Lib.run_neq_nil_nil w Tryz.underlying20;refine callsD_of_wpS Tryz.func40 rfl fun c₀ cs hu=>?_;apply wpS_seq;apply wpS_region;simp [wpOpsS,go_sem,recoverD,hu,Tryz.ntmps40,Exit.thenS];apply wpS_seq;apply wpS_region;simp [wpOpsS,go_sem,hnn,Exit.thenS];refine wpS_cond (t:=false) (by simp [Act.eval,Array.replicate]) ?_;simp only [Bool.false_eq_true,if_false];refine wpS_of_wp (wp_skip ?_);cases c₀
 simp_all [bodyPostS,results,Tryz.results40]
section
variable {P:Program} {ops:Array Oper} {Q:Exit→Act→World→Prop} {md:Region.Mode} {S:World→Prop} {i:Nat} {oi:Oper} {v:Value} {fuel:Nat} {listed:Array Bool} {a:Act} {w:World}
theorem oI (d:Option Tmp) (hi:ops[i]? =some oi) (hd:oi.dst=d)
  (hs:Region.noSelect ops=true) (hf:Region.free md ops listed i=true) (hr:(Region.ready md ops listed).contains i=true)
  (hQ:∀c a w,Q (.panic c) (a.put d v) w→Q (.panic c) a w) (hy:YieldsIf P ops S oi v a) (hS:S w)
  (h:wpAnyH P md ops Q S fuel (listed.setIfInBounds i true) (a.put d v) w):wpAnyH P md ops Q S (fuel+1) listed a w:=by
 subst hd;exact wpAnyH_take hi hs hf hr hQ hy hS h
theorem og (hr:Region.ready md ops listed= [i]) (ho:ops[i]? =some oi) (hw:Region.wanted oi (yielded ops a.tmps)=true) (ty:TypeId) (x y:Operand) (hop:oi.op= .store ty x y) (hd:oi.dst=none)
  (g:Nat) (cells:Array Value) (hx:a.eval x= .pointer (some ⟨g,0,none⟩)) (hy:a.eval y= .agg cells) (t:TypeId) (old:Array Value) (hg:w.heap[g]? =some (.cells old t (0,0))) (hi:(P.info? ty).map (·.size)=some cells.size) (hold:old.size=cells.size) (h1:cells.all (·.oneCell')=true)
  (hS:S (w.setRow g cells)) (h:S (w.setRow g cells)→wpAnyH P md ops Q S fuel (listed.setIfInBounds i true) a (w.setRow g cells)):wpAnyH P md ops Q S (fuel+1) listed a w:=by
 refine wpAnyH_ready (rs:= [i]) hr (by simp) ?_;refine AllReadyH.cons ho (fun K hK=>?_) AllReadyH.nil;rw [if_pos hw];refine wp_store_row ty x y hop g cells hx hy t old hg hi hold h1 ?_;rw [hd];exact hK.out a _ hS h
end
theorem bD.grown {M:Nat} {w0 w w':World} {rb pb:Nat} {t:TypeId} {cs:Array Value} (h:bD w rb pb t cs w') (hb:Below M w0 w) (h1:M≤pb) (h2:M≤rb) (hp:pb<w.heap.size):Below M w0 w':=
 hb.trans ⟨h.os,h.tape,h.output,h.size,fun k hk=>h.block k (by omega) (by omega) (by omega)⟩
def TrdR (w:World) (t:Tb) (n:Nat) (e:Ending) (w':World):Prop:=
 ∃A c ys,e= .returned (.tuple #[.agg (ai {t with bJ:=aS} (.slice A n c)), .bool true])∧gX w.heap.size w' (.slice A n c) ys∧ys.map (·.e)=t.aK∧Below w.heap.size w w'
theorem Nr (w:World) (t:Tb) (n N b off c:Nat) (h:lF t) (hn:t.aK.length=n) (hN:(fF t).length=N) (hbl:b<w.heap.size) (hc1:N≤c) (hc2:c≤9223372036854775807)
  (hA:∀j,j<N→w.cell? ⟨b,off+j,none⟩=some (Extern.Stop.cell ((fF t)[j]?.getD 0))):
  Calls Tryz.prog 20 #[.slice (some ⟨b,off,none⟩) N c] w (TrdR w t n):=by
 have hmf:∀(fn:Fn) (first cap:Array Value) (w:World),(Instr.makeFunc fn first cap).run Tryz.prog w= .ok (.func fn first cap) w:=fun _ _ _ _=>rfl;have HF:=ae h;have dR:Hid (∀v,(Tryz.prog.info? 32).map (·.size)=some (ai {t with bJ:=aS} v).size):=ae fun v=>bP _ v h.prev rfl;have HN:=ae hn;have Ir:=ae hN;obtain ⟨W,hW⟩:∃W,((w.alloc (.cells (ai bn (.slice none 0 0)) 32)).alloc (.cells #[.bool false] 4)).alloc (.cells #[.slice (some ⟨b,off,none⟩) N c] 110)=W:=⟨_,rfl⟩;have hB:Below w.heap.size w W:=by rw [←hW];exact (((Below.refl _ w).alloc (Nat.le_refl _) _).alloc (by simp) _).alloc (by simp;omega) _
 have hs:W.heap.size=w.heap.size+3:=by rw [←hW];simp
 have ht:W.heap[w.heap.size]? =some (.cells (ai bn (.slice none 0 0)) 32 (0,0)):=by rw [←hW];exact (Below.heap_alloc _ _ _ (by simp;omega)).trans (heap_alloc2_old w _ _)
 have ho:W.heap[w.heap.size+1]? =some (.cells #[.bool false] 4 (0,0)):=by rw [←hW];exact (Below.heap_alloc _ _ _ (by simp)).trans (heap_alloc2_new w _ _)
 have hr:fQ w.heap.size W (w.heap.size+2) (fF t++ []):=by
  rw [List.append_nil];refine ⟨⟨b,off,c,?_,by rw [hN];exact hc1,hc2,hbl,fun j hj=>(hB.cell (p:=⟨b,off+j,none⟩) hbl).trans (hA j (by omega))⟩,by omega⟩;rw [←hW,hN];have:=heap_alloc_last ((w.alloc (.cells (ai bn (.slice none 0 0)) 32)).alloc (.cells #[.bool false] 4)) (.cells #[.slice (some ⟨b,off,none⟩) N c] 110);simpa using this
 have HB:=ae hB;have HS:=ae hs;have HO:=ae ho;have HC:=ae (Yd w.heap.size W (w.heap.size+2) w.heap.size n t [] h hn hr ht (Nat.le_refl _) (by omega));clear h hn hN hA hB hs ht ho hr
 go_enter_defers Tryz.func20,Tryz.ntmps20
 go_wp2_with fail;rw [fK,hW];refine HC.out.mono ?_;rintro e w2 ⟨rfl,A,cz,ys,hr2,hp2,hz2,he2⟩;have hs0:=HS.out;have ho2:w2.heap[w.heap.size+1]? =some (.cells #[.bool false] 4 (0,0)):=(hp2.block _ (by omega) (by omega) (by omega)).trans HO.out;have HB2:=ae (hp2.grown HB.out (Nat.le_refl _) (by omega) (by omega));have HV:=ae hp2.tgt;have HZ2:=ae (hz2.lower (lo':=w.heap.size+3) (by omega));have HRW:=ae (Row.kF hp2.tgt);have mJ:=ae ho2;have HE2:=ae he2;have hlt2:w.heap.size+3≤w2.heap.size:=by have:=hp2.size;omega
 obtain ⟨bb,o2,c2,hq,_⟩:=hr2.at_;have hc2:w2.cell? ⟨w.heap.size+1+1,0,none⟩=some (.slice (some ⟨bb,o2,none⟩) 0 c2):=cell_of_row w2 (w.heap.size+2) 0 _ _ _ hq;clear hr2 hp2 hz2 he2 ho2 hW HC hq HO HB HS;go_wp2_with fail;refine wp_region_noPanic ?_;refine wp_region_held_drew (S:=fun W=>Row W w.heap.size (ai {t with bJ:=aS} (.slice A n cz))∧W.cell? ⟨w.heap.size+1+1,0,none⟩=some (.slice (some ⟨bb,o2,none⟩) 0 c2)) (by kernel_rfl) ⟨⟨HRW.out.1,HRW.out.2⟩,hc2⟩ (fun hH=>?_);refine mQ 0 _ 12 rfl rfl hH (yieldsIf_load_mid (by rfl) _ _ rfl w.heap.size 0 rfl (ai {t with bJ:=aS} (.slice A n cz)).toList _ (fun W hW j v hv=>by rw [Nat.zero_add,hW.1.2 j];simpa using hv) Tryz.underlying32 rfl (by rw [dR.out,Array.length_toList])) ?_;refine ay ?_;refine tC 1 (pt (w.heap.size+1+1)) 13 rfl rfl hH (fun W hW=>by obtain ⟨_,hW2⟩:=hW;go_simp) ?_;refine ay ?_;refine tC 2 (pt (w.heap.size+1+1)) 14 rfl rfl hH (fun W hW=>by obtain ⟨_,hW2⟩:=hW;go_simp) ?_;refine ay ?_;refine tC 3 (pt (w.heap.size+1+1)) 15 rfl rfl hH (fun W hW=>by obtain ⟨_,hW2⟩:=hW;go_simp) ?_;refine ay ?_;refine tC 4 (.slice (some ⟨bb,o2,none⟩) 0 c2) 16 rfl rfl hH (fun W hW=>by obtain ⟨_,hW2⟩:=hW;go_simp) ?_;refine ay ?_;refine tC 5 (I 0) 17 rfl rfl hH (fun W hW=>by obtain ⟨_,hW2⟩:=hW;go_simp) ?_;refine ay ?_;refine tC 6 (.bool true) 18 rfl rfl hH (fun W hW=>by obtain ⟨_,hW2⟩:=hW;go_simp) ?_;refine ay ?_;have hv2:w2.drew.heap[w.heap.size]? =some (.cells (ai {t with bJ:=aS} (.slice A n cz)) 32 (0,0)):=HV.out;have HW3:Hid ((w2.drew.setRow w.heap.size (ai {t with bJ:=aS} (.slice A n cz))).heap[w.heap.size]? =some (.cells (ai {t with bJ:=aS} (.slice A n cz)) 32 (0,0))):=ae (setRow_heap _ _ _ _ _ _ hv2);have kX:Hid (∀k,k≠w.heap.size→(w2.drew.setRow w.heap.size (ai {t with bJ:=aS} (.slice A n cz))).heap[k]? =w2.heap[k]?):=ae fun k hk=>setRow_other _ _ k _ hk;have KN:Hid ((w2.drew.setRow w.heap.size (ai {t with bJ:=aS} (.slice A n cz))).heap.size=w2.heap.size):=ae (by show (w2.setRow w.heap.size _).heap.size=_;simp [World.setRow]);have HD3:Hid ((w2.drew.setRow w.heap.size (ai {t with bJ:=aS} (.slice A n cz))).os=w2.os∧(w2.drew.setRow w.heap.size (ai {t with bJ:=aS} (.slice A n cz))).tape=w2.tape∧(w2.drew.setRow w.heap.size (ai {t with bJ:=aS} (.slice A n cz))).output=w2.output):=ae ⟨rfl,rfl,rfl⟩;have hc3:(w2.drew.setRow w.heap.size (ai {t with bJ:=aS} (.slice A n cz))).cell? ⟨w.heap.size+1+1,0,none⟩=some (.slice (some ⟨bb,o2,none⟩) 0 c2):=(World.cell?_of_block (a:=⟨w.heap.size+1+1,0,none⟩) (kX.out _ (by show w.heap.size+1+1≠w.heap.size;omega))).trans hc2;refine og (i:=7) (by kernel_rfl) rfl (by rfl) _ _ _ rfl rfl w.heap.size (ai {t with bJ:=aS} (.slice A n cz)) rfl rfl 32 (ai {t with bJ:=aS} (.slice A n cz)) hv2 (dR.out _) rfl (aT _ _ _ _) ⟨Row.kF HW3.out,hc3⟩ (fun hH3=>?_);clear hH hH3;generalize w2.drew.setRow w.heap.size (ai {t with bJ:=aS} (.slice A n cz))=w3 at HW3 kX KN HD3 hc3 ⊢;have ho3:w3.heap[w.heap.size+1]? =some (.cells #[.bool false] 4 (0,0)):=(kX.out _ (by omega)).trans mJ.out;have hcc:=cell_of_row _ (w.heap.size+1) 0 _ _ _ ho3;have hfc:=frozen_of_row _ (w.heap.size+1) 0 _ _ ho3;have mV:=ae ho3;have hS4:Row (w3.setCell ⟨w.heap.size+1,0,none⟩ (.bool true)) w.heap.size (ai {t with bJ:=aS} (.slice A n cz))∧(w3.setCell ⟨w.heap.size+1,0,none⟩ (.bool true)).cell? ⟨w.heap.size+1+1,0,none⟩=some (.slice (some ⟨bb,o2,none⟩) 0 c2):=
  ⟨Row.kF ((heap_setCell_other w3 _ w.heap.size _ (by show w.heap.size≠w.heap.size+1;omega)).trans HW3.out),(World.cell?_of_block (a:=⟨w.heap.size+1+1,0,none⟩) (heap_setCell_other w3 _ _ _ (by show w.heap.size+1+1≠w.heap.size+1;omega))).trans hc3⟩
 have yu:=ae hS4;clear hv2 ho3 hS4;refine bT 8 (fun K hK=>?_);go_simp;refine hK.out _ _ yu.out (fun hH4=>?_);refine wpAnyH_done (by kernel_rfl) ?_ _;refine NoPanic.normal ?_;clear hK K hH4;go_wp2_with fail;refine leaves_cons (f:=40) (args:= #[.pointer (some ⟨w.heap.size+1,0,none⟩)]) (by simp) (by simp [go_sem]) ?_;refine (uC _ _).mono ?_;rintro e u' KT ⟨rfl,rfl,rfl⟩;have hbl:∀k,k≠w.heap.size→k≠w.heap.size+1→(w3.setCell ⟨w.heap.size+1,0,none⟩ (.bool true)).heap[k]? =w2.heap[k]? :=fun k h1 h2=>
  (heap_setCell_other _ _ k _ h2).trans (kX.out k h1)
 have hsz:(w3.setCell ⟨w.heap.size+1,0,none⟩ (.bool true)).heap.size=w2.heap.size:=by rw [←KN.out];simp [World.setCell]
 have hv4:(w3.setCell ⟨w.heap.size+1,0,none⟩ (.bool true)).heap[w.heap.size]? =some (.cells (ai {t with bJ:=aS} (.slice A n cz)) 32 (0,0)):=(heap_setCell_other w3 ⟨w.heap.size+1,0,none⟩ w.heap.size _ (by show w.heap.size≠w.heap.size+1;omega)).trans HW3.out;have hc4:=cell_of_row _ (w.heap.size+1) 0 _ _ _ (heap_setCell_same _ (w.heap.size+1) 0 _ _ (.bool true) mV.out);refine ⟨_,iV rfl _ _ w.heap.size (w.heap.size+1) _ (ai {t with bJ:=aS} (.slice A n cz)) (0,0) _ (.bool true) rfl hv4 Tryz.underlying32 rfl (dR.out _) rfl (jh _ _ _ hc4),A,cz,ys,rfl,?_,HE2.out,?_⟩
 ·exact (HZ2.out.aQ (Nat.le_of_eq hsz.symm) fun k h1 h2=>hbl k (by omega) (by omega)).lower (by omega)
 ·exact HB2.out.trans ⟨HD3.out.1,HD3.out.2.1,HD3.out.2.2,Nat.le_of_eq hsz.symm,fun k hk=>hbl k (by omega) (by omega)⟩
def CX (lo g:Nat) (w:World) (A:Option Addr) (cs:List Value):Prop:=
 cs.length=0∨∃b off,A=some ⟨b,off,none⟩∧lo≤b∧b<w.heap.size∧b≠g∧∀j u,cs[j]? =some u→w.cell? ⟨b,off+j,none⟩=some u
theorem CX.aQ {lo g:Nat} {w w':World} {A:Option Addr} {cs:List Value} (h:CX lo g w A cs) (hs:w.heap.size≤w'.heap.size) (hb:∀k,lo≤k→k<w.heap.size→k≠g→w'.heap[k]? =w.heap[k]?):CX lo g w' A cs:=by
 rcases h with h|⟨b,off,h1,h2,h3,h4,h5⟩
 ·exact .inl h
 ·exact .inr ⟨b,off,h1,h2,dS h3 hs,h4,fun j u hu=>(World.cell?_of_block (a:=⟨b,off+j,none⟩) (hb b h2 h3 h4)).trans (h5 j u hu)⟩
theorem CX.off {lo g g':Nat} {w:World} {A:Option Addr} {cs:List Value} (h:CX lo g w A cs) (hg:g'<lo):CX lo g' w A cs:=by
 rcases h with h|⟨b,off,h1,h2,h3,_,h5⟩
 ·exact .inl h
 ·exact .inr ⟨b,off,h1,h2,h3,by omega,h5⟩
theorem CX.lower {lo lo' g:Nat} {w:World} {A:Option Addr} {cs:List Value} (h:CX lo g w A cs) (hl:lo'≤lo):CX lo' g w A cs:=by
 rcases h with h|⟨b,off,h1,h2,h3,h4,h5⟩
 ·exact .inl h
 ·exact .inr ⟨b,off,h1,by omega,h3,h4,h5⟩
theorem CX.fA {B g e size n c:Nat} {A:Option Addr} {w:World} {cs:List Value} (h:w.ownsRow B e size (.slice A n c) n cs) (hg:g<B):CX B g w A cs:=by
 rcases h.2 with ⟨hv,hn⟩|⟨b,cap,cur,hv,hb,hh,_⟩
 ·refine .inl ?_;rw [h.1,hn,Nat.zero_mul]
 ·injection hv with h1 _ _;subst h1;exact .inr ⟨b,0,rfl,hb,(bY.1 hh).1,by omega,fun j u hu=>by rw [Nat.zero_add,←addr_add];exact h.cells (g:=b) rfl j u hu⟩
structure Oq (lo g:Nat) (w:World) (s:Zs) (z:Zn):Prop where
 aj:CX lo g w s.A (z.cal.aj.map I)
 rules:CX lo g w s.B (z.cal.rules.flatMap Lr.cells)
 trans:CX lo g w s.C (z.trans.flatMap Tr.cells)
 az:CX lo g w s.D (z.az.flatMap Yr.cells)
section
variable {lo lo' g g':Nat} {w w':World} {s:Zs} {z:Zn}
theorem Oq.aQ (h:Oq lo g w s z) (hs:w.heap.size≤w'.heap.size) (hb:∀k,lo≤k→k<w.heap.size→k≠g→w'.heap[k]? =w.heap[k]?):Oq lo g w' s z:=
 ⟨h.aj.aQ hs hb,h.rules.aQ hs hb,h.trans.aQ hs hb,h.az.aQ hs hb⟩
theorem Oq.off (h:Oq lo g w s z) (hg:g'<lo):Oq lo g' w s z:=⟨h.aj.off hg,h.rules.off hg,h.trans.off hg,h.az.off hg⟩
theorem Oq.lower (h:Oq lo g w s z) (hl:lo'≤lo):Oq lo' g w s z:=⟨h.aj.lower hl,h.rules.lower hl,h.trans.lower hl,h.az.lower hl⟩
end
structure oU (z:Zn):Prop where
 aj:z.cal.aj.length≤10000
 rules:z.cal.rules.length≤10000
 trans:z.trans.length≤10000
 az:z.az.length≤10000
def jM:Array Value:= #[I 0, .slice none 0 0,I 0, .slice none 0 0,I 0, .slice none 0 0,I 0, .slice none 0 0]
structure IJ (w:World) (cs:Array Value) (W:World):Prop where
 var:W.heap[w.heap.size]? =some (.cells cs 51 (0,0))
 res:W.heap[w.heap.size+1]? =some (.cells jM 51 (0,0))
 up:Below w.heap.size w W
section
variable {w W W':World} {cs:Array Value}
theorem IJ.lt (h:IJ w cs W):w.heap.size+1<W.heap.size:=(bY.1 h.res).1
theorem IJ.grow (h:IJ w cs W) (hb:Below W.heap.size W W'):IJ w cs W':=
 ⟨(hb.block _ (by have:=h.lt;omega)).trans h.var,(hb.block _ h.lt).trans h.res,ah h.up hb⟩
theorem IJ.store (h:IJ w cs W) (o:Nat) (v:Value):IJ w (cs.setIfInBounds o v) (W.setCell ⟨w.heap.size,o,none⟩ v):=
 ⟨heap_setCell_same W _ o _ _ _ h.var,(heap_setCell_other W _ _ v (by show w.heap.size+1≠w.heap.size;omega)).trans h.res,h.up.setCell (p:=⟨w.heap.size,o,none⟩) (Nat.le_refl _) _⟩
theorem IJ.start (w:World) (cs:Array Value):IJ w cs ((w.alloc (.cells cs 51)).alloc (.cells jM 51)):=
 ⟨heap_alloc2_old w _ _,heap_alloc2_new w _ _,ah (ag w _) (ag _ _)⟩
theorem IJ.row (h:IJ w cs W):Row W w.heap.size cs:=⟨by have:=h.lt;omega,fun i=>cell_of_row W _ i _ _ _ h.var⟩
end
theorem nC {w W:World} {o:Nat} {v:Value} {lo g:Nat} {A:Option Addr} {cs:List Value} (h:CX lo g W A cs) (hlo:w.heap.size+2≤lo):CX lo g (W.setCell ⟨w.heap.size,o,none⟩ v) A cs:=
 h.aQ (by simp [World.setCell]) fun k h1 _ _=>heap_setCell_other W _ k _ (by show k≠w.heap.size;omega)
def CzQ (w:World) (z:Zn) (e:Ending) (w':World):Prop:=∃s,e= .returned (.agg (ax z s))∧Oq w.heap.size w.heap.size w' s z∧Below w.heap.size w w'
theorem Yt (z:Zn) (s:Zs):(ax z s)[1]? =some (.slice s.A z.cal.aj.length s.a):=rfl
theorem Yu (z:Zn) (s:Zs):(ax z s)[3]? =some (.slice s.B z.cal.rules.length s.b):=rfl
theorem Yv (z:Zn) (s:Zs):(ax z s)[5]? =some (.slice s.C z.trans.length s.c):=rfl
theorem Yw (z:Zn) (s:Zs):(ax z s)[7]? =some (.slice s.D z.az.length s.d):=rfl
attribute [local go_sem] Yt Yu Yv Yw
theorem uj (z:Zn) (s:Zs) (w:World) (hL:oU z) (hA:jR w w.heap.size s z):Calls Tryz.prog 29 #[.agg (ax z s)] w (CzQ w z):=by
 have HS:=ae (IJ.start w (ax z s));have HL:=ae hL;have HA:=ae hA;clear hL hA;go_enter Tryz.func29,Tryz.ntmps29;go_wp2_with (with_reducible refine bu 51 ?_;refine bH rfl _ rfl jM (by kernel_rfl) ?_);generalize (w.alloc (.cells (ax z s) 51)).alloc (.cells jM 51)=W0 at HS ⊢;have rE:=HS;have c0:W0.cell? ⟨w.heap.size,1,none⟩=some (.slice s.A z.cal.aj.length s.a):=rE.out.row.2 1;have f0:∀i,W0.frozen? ⟨w.heap.size,i,none⟩=false:=fun i=>frozen_of_row _ _ i _ _ rE.out.var;refine (show Calls Tryz.prog _ _ W0 _ from WB s.A s.a z.cal.aj.length (z.cal.aj.map I) W0 (HA.out.aj.keep rE.out.up |>.more rE.out.up.size) (by rw [List.length_map];omega) (by intro u hu;obtain ⟨q,_,rfl⟩:=List.mem_map.1 hu;rfl) HL.out.aj).mono ?_;rintro e w1 ⟨A1,a1,rfl,hown,hb⟩;have V8:=ae (rE.out.grow hb);have hr1:∀i,w1.cell? ⟨w.heap.size,i,none⟩=_:=V8.out.row.2;have hf1:∀i,w1.frozen? ⟨w.heap.size,i,none⟩=false:=fun i=>frozen_of_row _ _ i _ _ V8.out.var;have v1:w1.cell? ⟨w.heap.size,1,none⟩=some (.slice s.A z.cal.aj.length s.a):=hr1 1;have hlt1:=rE.out.lt;have n1:w1.cell? ⟨w.heap.size,3,none⟩=some (.slice s.B z.cal.rules.length s.b):=hr1 3;have Lc:Hid (CX (w.heap.size+2) w.heap.size (w1.setCell ⟨w.heap.size,1,none⟩ (.slice A1 z.cal.aj.length a1)) A1 (z.cal.aj.map I)):=ae (nC ((CX.fA hown (by omega)).lower (by omega)) (Nat.le_refl _));have vW:Hid (IJ w (ax z ⟨A1,a1,s.B,s.b,s.C,s.c,s.D,s.d⟩) (w1.setCell ⟨w.heap.size,1,none⟩ (.slice A1 z.cal.aj.length a1))):=ae (V8.out.store 1 (.slice A1 z.cal.aj.length a1));clear hown hb hr1 c0 f0;go_wp2_with fail;generalize hW1:w1.setCell ⟨w.heap.size,1,none⟩ (.slice A1 z.cal.aj.length a1)=W1 at vW Lc ⊢;have kS:=vW;have HX1_1:=Lc;have c1:W1.cell? ⟨w.heap.size,3,none⟩=some (.slice s.B z.cal.rules.length s.b):=kS.out.row.2 3;have f1:∀i,W1.frozen? ⟨w.heap.size,i,none⟩=false:=fun i=>frozen_of_row _ _ i _ _ kS.out.var;clear v1 n1 hf1 hlt1 vW V8 hW1 Lc;refine (show Calls Tryz.prog _ _ W1 _ from WE s.B s.b z.cal.rules.length (z.cal.rules.flatMap Lr.cells) W1 (HA.out.rules.keep kS.out.up |>.more kS.out.up.size) (by rw [dP (s:=3) Lr.cells _ fun _ _=>rfl]) (GG Lr.cells _ fun x _=>Xt x) HL.out.rules).mono ?_;rintro e w2 ⟨A2,a2,rfl,hown,hb⟩;have V9:=ae (kS.out.grow hb);have hr2:∀i,w2.cell? ⟨w.heap.size,i,none⟩=_:=V9.out.row.2;have hf2:∀i,w2.frozen? ⟨w.heap.size,i,none⟩=false:=fun i=>frozen_of_row _ _ i _ _ V9.out.var;have v2:w2.cell? ⟨w.heap.size,3,none⟩=some (.slice s.B z.cal.rules.length s.b):=hr2 3;have hlt2:=kS.out.lt;have n2:w2.cell? ⟨w.heap.size,5,none⟩=some (.slice s.C z.trans.length s.c):=hr2 5;have Ld:=ae (nC (o:=3) (v:= .slice A2 z.cal.rules.length a2) (HX1_1.out.aQ hb.size fun k _ h2 _=>hb.block k h2) (Nat.le_refl _));have Lh:Hid (CX (w.heap.size+2) w.heap.size (w2.setCell ⟨w.heap.size,3,none⟩ (.slice A2 z.cal.rules.length a2)) A2 (z.cal.rules.flatMap Lr.cells)):=ae (nC ((CX.fA hown (by omega)).lower (by omega)) (Nat.le_refl _));have vW:Hid (IJ w (ax z ⟨A1,a1,A2,a2,s.C,s.c,s.D,s.d⟩) (w2.setCell ⟨w.heap.size,3,none⟩ (.slice A2 z.cal.rules.length a2))):=ae (V9.out.store 3 (.slice A2 z.cal.rules.length a2));clear hown hb hr2 c1 f1;go_wp2_with fail;generalize hW2:w2.setCell ⟨w.heap.size,3,none⟩ (.slice A2 z.cal.rules.length a2)=W2 at vW Ld Lh ⊢;have HS2:=vW;have HX1_2:=Ld;have HX2_2:=Lh;have c2:W2.cell? ⟨w.heap.size,5,none⟩=some (.slice s.C z.trans.length s.c):=HS2.out.row.2 5;have f2:∀i,W2.frozen? ⟨w.heap.size,i,none⟩=false:=fun i=>frozen_of_row _ _ i _ _ HS2.out.var;clear v2 n2 hf2 hlt2 vW V9 hW2 Ld Lh;refine (show Calls Tryz.prog _ _ W2 _ from WH s.C s.c z.trans.length (z.trans.flatMap Tr.cells) W2 (HA.out.trans.keep HS2.out.up |>.more HS2.out.up.size) (by rw [dP (s:=2) Tr.cells _ fun _ _=>rfl]) (GG Tr.cells _ fun x _=>wP x) HL.out.trans).mono ?_;rintro e w3 ⟨A3,a3,rfl,hown,hb⟩;have We:=ae (HS2.out.grow hb);have hr3:∀i,w3.cell? ⟨w.heap.size,i,none⟩=_:=We.out.row.2;have hf3:∀i,w3.frozen? ⟨w.heap.size,i,none⟩=false:=fun i=>frozen_of_row _ _ i _ _ We.out.var;have v3:w3.cell? ⟨w.heap.size,5,none⟩=some (.slice s.C z.trans.length s.c):=hr3 5;have hlt3:=HS2.out.lt
 have n3:w3.cell? ⟨w.heap.size,7,none⟩=some (.slice s.D z.az.length s.d):=hr3 7;have Le:=ae (nC (o:=5) (v:= .slice A3 z.trans.length a3) (HX1_2.out.aQ hb.size fun k _ h2 _=>hb.block k h2) (Nat.le_refl _));have Lj:=ae (nC (o:=5) (v:= .slice A3 z.trans.length a3) (HX2_2.out.aQ hb.size fun k _ h2 _=>hb.block k h2) (Nat.le_refl _));have Ll:Hid (CX (w.heap.size+2) w.heap.size (w3.setCell ⟨w.heap.size,5,none⟩ (.slice A3 z.trans.length a3)) A3 (z.trans.flatMap Tr.cells)):=ae (nC ((CX.fA hown (by omega)).lower (by omega)) (Nat.le_refl _));have vW:Hid (IJ w (ax z ⟨A1,a1,A2,a2,A3,a3,s.D,s.d⟩) (w3.setCell ⟨w.heap.size,5,none⟩ (.slice A3 z.trans.length a3))):=ae (We.out.store 5 (.slice A3 z.trans.length a3));clear hown hb hr3 c2 f2;go_wp2_with fail;generalize hW3:w3.setCell ⟨w.heap.size,5,none⟩ (.slice A3 z.trans.length a3)=W3 at vW Le Lj Ll ⊢;have nS:=vW;have HX1_3:=Le;have HX2_3:=Lj;have HX3_3:=Ll;have c3:W3.cell? ⟨w.heap.size,7,none⟩=some (.slice s.D z.az.length s.d):=nS.out.row.2 7;have f3:∀i,W3.frozen? ⟨w.heap.size,i,none⟩=false:=fun i=>frozen_of_row _ _ i _ _ nS.out.var;clear v3 n3 hf3 hlt3 vW We hW3 Le Lj Ll;refine (show Calls Tryz.prog _ _ W3 _ from WJ s.D s.d z.az.length (z.az.flatMap Yr.cells) W3 (HA.out.az.keep nS.out.up |>.more nS.out.up.size) (by rw [dP (s:=5) Yr.cells _ fun _ _=>rfl]) (GG Yr.cells _ fun x _=>wV x) HL.out.az).mono ?_;rintro e w4 ⟨A4,a4,rfl,hown,hb⟩;have Z9:=ae (nS.out.grow hb);have hr4:∀i,w4.cell? ⟨w.heap.size,i,none⟩=_:=Z9.out.row.2;have hf4:∀i,w4.frozen? ⟨w.heap.size,i,none⟩=false:=fun i=>frozen_of_row _ _ i _ _ Z9.out.var;have v4:w4.cell? ⟨w.heap.size,7,none⟩=some (.slice s.D z.az.length s.d):=hr4 7;have hlt4:=nS.out.lt;have HX1_4':=ae (nC (o:=7) (v:= .slice A4 z.az.length a4) (HX1_3.out.aQ hb.size fun k _ h2 _=>hb.block k h2) (Nat.le_refl _));have HX2_4':=ae (nC (o:=7) (v:= .slice A4 z.az.length a4) (HX2_3.out.aQ hb.size fun k _ h2 _=>hb.block k h2) (Nat.le_refl _));have HX3_4':=ae (nC (o:=7) (v:= .slice A4 z.az.length a4) (HX3_3.out.aQ hb.size fun k _ h2 _=>hb.block k h2) (Nat.le_refl _));have HX4_4':Hid (CX (w.heap.size+2) w.heap.size (w4.setCell ⟨w.heap.size,7,none⟩ (.slice A4 z.az.length a4)) A4 (z.az.flatMap Yr.cells)):=ae (nC ((CX.fA hown (by omega)).lower (by omega)) (Nat.le_refl _));have vW:Hid (IJ w (ax z ⟨A1,a1,A2,a2,A3,a3,A4,a4⟩) (w4.setCell ⟨w.heap.size,7,none⟩ (.slice A4 z.az.length a4))):=ae (Z9.out.store 7 (.slice A4 z.az.length a4));clear hown hb hr4 c3 f3;go_wp2_with (first
  |(with_reducible refine dM 51 ?_;refine aV rfl _ _ rfl w.heap.size rfl (ax z ⟨A1,a1,A2,a2,A3,a3,A4,a4⟩) vW.out.row _ Tryz.underlying51 rfl (mD _ _) ?_)
  |(with_reducible refine bV 51 ?_;refine wpList_store_row rfl _ _ _ rfl (w.heap.size+1) (ax z ⟨A1,a1,A2,a2,A3,a3,A4,a4⟩) rfl rfl 51 jM vW.out.res (mD _ _) rfl (D8 _ _) ?_))
 refine bodyPost_ret (v:= .agg (ax z ⟨A1,a1,A2,a2,A3,a3,A4,a4⟩)) (results_cell_row rfl _ _ (w.heap.size+1) _ (ax z ⟨A1,a1,A2,a2,A3,a3,A4,a4⟩) (0,0) _ rfl (setRow_heap _ _ _ _ _ _ vW.out.res) Tryz.underlying51 rfl (mD _ _)) rfl ?_;have hb:∀(W:World) (cs:Array Value) (k:Nat),w.heap.size+2≤k→(W.setRow (w.heap.size+1) cs).heap[k]? =W.heap[k]? :=fun W cs k hk=>setRow_other _ _ k _ (by omega);have hX:∀ {A:Option Addr} {cs:List Value} {W:World} {rc:Array Value},CX (w.heap.size+2) w.heap.size W A cs→CX w.heap.size w.heap.size (W.setRow (w.heap.size+1) rc) A cs:=fun h=>(h.aQ (by simp [World.setRow]) fun k h1 _ _=>hb _ _ k h1).lower (by omega);exact ⟨⟨A1,a1,A2,a2,A3,a3,A4,a4⟩,rfl,⟨hX HX1_4'.out,hX HX2_4'.out,hX HX3_4'.out,hX HX4_4'.out⟩,below_setRow vW.out.up (Nat.le_succ _) _⟩
end Go.Proofs.YtdibbemgpikgjaaGreat
