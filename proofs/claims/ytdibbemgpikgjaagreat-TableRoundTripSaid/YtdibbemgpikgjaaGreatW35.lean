/- The texts Je, Jf, in this order. -/
import Derived.Test.YtdibbemgpikgjaaGreatW00
import Derived.Test.YtdibbemgpikgjaaGreatW31
import Derived.Test.YtdibbemgpikgjaaGreatW34
set_option maxRecDepth 10000
set_option maxHeartbeats 8000000
namespace Go.Proofs.YtdibbemgpikgjaaGreat
open Go Go.RowKit
def lD (c:Cal):Nat→Int
 |0=>0
 |k+1=>lD c k+Bh c ((k:Int)+1)
theorem Dz (c:Cal) (k:Nat) (hc:kZ c):(k:Int)≤lD c k∧lD c k≤656*(k:Int):=by
 induction k with
 |zero=>exact ⟨by show (0:Int)≤0;omega,by show (0:Int)≤656*0;omega⟩
 |succ k ih=>
  have h1:=Ii c ((k:Int)+1) hc;show _≤lD c k+Bh c ((k:Int)+1)∧lD c k+Bh c ((k:Int)+1)≤_;omega
def Oy (c:Cal):Nat:=(ng c.rules 1).getD 0
def KR (c:Cal):Int:=lD c (Oy c)
theorem Mc {c:Cal} (hc:kZ c):ng c.rules 1=some (Oy c)∧1≤Oy c∧Oy c≤400:=by
 have h:=hc.per;unfold Oy;cases hp:ng c.rules 1 with
 |none=>rw [hp] at h;cases h
 |some N=>exact ⟨rfl,OW c.rules 1 N (by omega) (by omega) hp⟩
theorem Tz {c:Cal} (hc:kZ c):1≤KR c∧KR c≤262400:=by
 have h1:=Mc hc;have h2:=Dz c (Oy c) hc;unfold KR;omega
theorem sS.Zp {w W:World} {ep lp:Int} {A R:Option Addr} {a n r N mm vb sb:Nat} (hL:Below w.heap.size w W) (hI:AV w.heap.size 47 #[I ep, .slice A mm a,I lp, .slice R n r] W) (hR:AV (w.heap.size+1) (198) #[I 0, .slice none 0 0,I 0, .slice none 0 0, .slice none 0 0] W) (hV:AV vb (198) #[I 0, .slice none 0 0,I 0, .slice none 0 0, .slice none 0 0] W)
  (hQ:W.heap[sb]? =some (.cells (Array.replicate (N+1) (I 0)) 3 (0,0))) (hvs:vb≠sb) (hvb:w.heap.size+2≤vb) (hsb:w.heap.size+2≤sb) (hN:1≤N) (hN2:N≤400):
  sS w [I ep, .slice A mm a,I lp, .slice R n r] vb 1 (N+1) (some ⟨sb,0,none⟩) [0] (W.setRow vb #[I ep, .slice A mm a,I lp, .slice R n r, .slice (some ⟨sb,0,none⟩) 1 (N+1)]):=by
 refine ⟨aC hL (by omega) _,hI.qW (by omega) _,hR.qW (by omega) _,hvb,hV.oH _,⟨rfl, .inr ⟨sb,N+1,Array.replicate (N+1) (I 0),rfl,hsb,(setRow_other _ _ sb _ (Ne.symm hvs)).trans hQ,by omega,?_,by simp,?_⟩⟩,?_⟩
 ·unfold maxLen;omega
 ·rw [Array.toList_replicate,List.replicate_succ];rfl
 ·intro e;have:vb=sb:=by simpa [Value.ownBlock] using e
  exact hvs this
def OpnG (w:World) (cl:Cal) (A:Option Addr) (a:Nat) (R:Option Addr) (r:Nat) (e:Ending) (w':World):Prop:=
 ∃(S:Option Addr) (k cp:Nat) (ss:List Int),e= .returned (.tuple #[.agg (kJ cl A a R r (.slice S k cp)), .bool true])∧k=Oy cl+1∧ss.length=k∧ss[k - 1]? =some (KR cl)∧fO w' w'.heap.size S ss∧k≤cp∧Below w.heap.size w w'
theorem LW (cl:Cal) (A R:Option Addr) (a r:Nat) (w:World) (hc:kZ cl) (h:oC w w.heap.size A R cl):Calls Tryz.prog 98 #[.agg (aG cl A a R r)] w (OpnG w cl A a R r):=by
 have jc:=ae (fun (W:World) (hb:Below w.heap.size w W)=>oG cl A R a r W (h.grow hb));obtain ⟨n,hn⟩:∃n,cl.rules.length=n:=⟨_,rfl⟩;have Ef:=ae (fun (W:World) (hb:Below w.heap.size w W)=>JL cl.rules R r n W ((h.rules.keep hb).more hb.size) hn (by have:=hc.rl;omega));have Iy:=ae (fun (y:Int) (S:Value) (W:World) (hb:Below w.heap.size w W)=>Zw cl A R a r S y W hc (h.grow hb));have HYB:=ae (fun (y:Int)=>Ii cl y hc);obtain ⟨N,hNe⟩:∃N,Oy cl=N:=⟨_,rfl⟩;obtain ⟨hN,hN1,hN2⟩:=Mc hc;rw [hNe] at hN hN1 hN2;rw [hN] at Ef;unfold XO at Ef;have HST:Hid (lD cl N=KR cl):=ae (by unfold KR;rw [hNe]);have ES:=ae hNe;have PO:Hid (∀k≤N,0≤lD cl k∧lD cl k≤262400):=ae (fun k hk=>by have:=Dz cl k hc;omega);have hmk:=Qn N (by omega);obtain ⟨i0,hi,hq0,hq1,hq2⟩:=info_parts qN;have HI:=ae hi;have sU:=ae hq0;have jS:=ae hq1;have jr:=ae hq2;clear hi hq0 hq1 hq2;obtain ⟨mm,hmm⟩:∃n,cl.aj.length=n:=⟨_,rfl⟩;obtain ⟨ep,rO⟩:∃n,cl.aI=n:=⟨_,rfl⟩;obtain ⟨lp,hlp⟩:∃n,cl.aY=n:=⟨_,rfl⟩;have e1:aG cl A a R r= #[I ep, .slice A mm a,I lp, .slice R n r]:=by rw [←hn,←hmm,←rO,←hlp];rfl
 have e2:∀S,kJ cl A a R r S= #[I ep, .slice A mm a,I lp, .slice R n r,S]:=fun S=>by rw [←hn,←hmm,←rO,←hlp];rfl
 rw [DK hc,e1] at jc;rw [e1];clear hn hmm rO hlp hN hNe;have HV:=ae (AV.new w #[I ep, .slice A mm a,I lp, .slice R n r] 47);go_enter Tryz.func98,Tryz.ntmps98;go_wp2_with fail;have HR:=ae (AV.new (w.alloc (.cells #[I ep, .slice A mm a,I lp, .slice R n r] 47)) #[I 0, .slice none 0 0,I 0, .slice none 0 0, .slice none 0 0] 198);have HI0:=ae (HV.out.below (ag _ (.cells #[I 0, .slice none 0 0,I 0, .slice none 0 0, .slice none 0 0] 198)));have HL0:=ae (ah (ag w (.cells #[I ep, .slice A mm a,I lp, .slice R n r] 47)) (ag _ (.cells #[I 0, .slice none 0 0,I 0, .slice none 0 0, .slice none 0 0] 198)));rw [oV w] at HR;generalize (w.alloc (.cells #[I ep, .slice A mm a,I lp, .slice R n r] 47)).alloc (.cells #[I 0, .slice none 0 0,I 0, .slice none 0 0, .slice none 0 0] 198)=W0 at HR HI0 HL0 ⊢;refine (jc.out _ HL0.out).mono ?_;rintro e w1 ⟨rfl,hb1⟩;have HR1:=ae (HR.out.below hb1);have HI1:=ae (HI0.out.below hb1);have PH:=ae (ah HL0.out hb1);have v3:=HI1.out.cell 3;clear hb1 HR HI0 HL0 HV jc;go_wp2_with fail;refine (Ef.out _ PH.out).mono ?_;rintro e w2 ⟨rfl,hb2⟩;have HR2:=ae (HR1.out.below hb2);have HI2:=ae (HI1.out.below hb2);have HL2:=ae (ah PH.out hb2);clear hb2 HR1 HI1 PH Ef v3;go_upto_region 4 with fail;have hw1:IntKind.i64.wrap ((N:Int)+1)=(N:Int)+1:=by rw [IntKind.wrap_i64];omega
 go_cut [6] (fun p wx=>∃vb sb,p= .pointer (some ⟨vb,0,none⟩)∧sS w [I ep, .slice A mm a,I lp, .slice R n r] vb 1 (N+1) (some ⟨sb,0,none⟩) [0] wx)
 case first=>
  have hS0:pX w2.drew w.heap.size #[I ep, .slice A mm a,I lp, .slice R n r]:=HI2.out.drew.lu;refine wp_region_held_drew (S:=fun W=>pX W w.heap.size #[I ep, .slice A mm a,I lp, .slice R n r]) (by kernel_rfl) hS0 (fun _=>?_);have HID:=ae HI2.out.drew;have V7:=ae HR2.out.drew;have HLD:Hid (Below w.heap.size w w2.drew):=ae (ah HL2.out ((Below.refl _ w2).drew));generalize w2.drew=V at hS0 HID V7 HLD ⊢;clear HI2 HR2 HL2;have hVr:=V7.out.lt;refine mQ 0 ( .agg #[I ep, .slice A mm a,I lp, .slice R n r]) 18 rfl rfl hS0 (yieldsIf_load_mid rfl 47 _ rfl w.heap.size (0) rfl [I ep, .slice A mm a,I lp, .slice R n r] _ (fun _ h=>fun j v hv=>by rw [Nat.zero_add,h.2 j];simpa using hv) Tryz.underlying47 rfl (by kernel_rfl)) ?_;refine ay ?_;refine aO 1 (I (N:Int)) 19 hS0 (fun w' hSw=>?_) ?_
  ·clear hSw
   first|(go_simp;done)|(go_simp;with_reducible rfl)
  refine ay ?_;refine aO 2 (I ((N:Int)+1)) 20 hS0 (fun w' hSw=>?_) ?_
  ·clear hSw
   first|(go_simp;done)|(go_simp;with_reducible rfl)
  refine ay ?_;refine mP 3 5 (fun K hK=>?_) (fun K hK=>?_)
  ·go_simp;have HI3:=ae (HID.out.below (ag V (.cells (Array.replicate (N+1) (I 0)) 3)));have HR3:=ae (V7.out.below (ag V (.cells (Array.replicate (N+1) (I 0)) 3)));have KN:=ae (ah HLD.out (ag V (.cells (Array.replicate (N+1) (I 0)) 3)));have xg:=ae (heap_alloc_last V (.cells (Array.replicate (N+1) (I 0)) 3));have hS3:pX (V.alloc (.cells (Array.replicate (N+1) (I 0)) 3)) w.heap.size #[I ep, .slice A mm a,I lp, .slice R n r]:=HI3.out.lu;refine hK.out _ _ hS3 (fun _=>?_);clear hK K;refine ay ?_;generalize (V.alloc (.cells (Array.replicate (N+1) (I 0)) 3))=V3 at HI3 HR3 KN xg hS3 ⊢;obtain ⟨sb,hsb0⟩:∃b,V.heap.size=b:=⟨_,rfl⟩;rw [hsb0] at xg ⊢;have hsb:w.heap.size+2≤sb:=by omega
   clear hsb0;refine mQ 4 ( .agg #[I ep, .slice A mm a,I lp, .slice R n r, .slice (some ⟨sb,0,none⟩) 1 (N+1)]) 22 rfl rfl hS3 (df rfl 198 _ rfl _ (by kernel_rfl)) ?_;refine ay ?_;refine bT 5 (fun K hK=>?_);refine jD (o:=⟨some 6, .alloc 198,_,_,_,none⟩) rfl 198 rfl #[I 0, .slice none 0 0,I 0, .slice none 0 0, .slice none 0 0] (by kernel_rfl) ?_;have QV:=ae (HI3.out.below (ag V3 (.cells #[I 0, .slice none 0 0,I 0, .slice none 0 0, .slice none 0 0] 198)));have qJ:=ae (HR3.out.below (ag V3 (.cells #[I 0, .slice none 0 0,I 0, .slice none 0 0, .slice none 0 0] 198)));have YP:=ae (ah KN.out (ag V3 (.cells #[I 0, .slice none 0 0,I 0, .slice none 0 0, .slice none 0 0] 198)));have HV5:=ae (AV.new V3 #[I 0, .slice none 0 0,I 0, .slice none 0 0, .slice none 0 0] 198);have hS5:pX (V3.alloc (.cells #[I 0, .slice none 0 0,I 0, .slice none 0 0, .slice none 0 0] 198)) w.heap.size #[I ep, .slice A mm a,I lp, .slice R n r]:=QV.out.lu;have HQ5:=ae ((Below.heap_alloc V3 (.cells #[I 0, .slice none 0 0,I 0, .slice none 0 0, .slice none 0 0] 198) sb (bY.1 xg.out).1).trans xg.out);have hvs:V3.heap.size≠sb:=by have:=(bY.1 xg.out).1;omega
   have hvb:w.heap.size+2≤V3.heap.size:=by have:=(bY.1 xg.out).1;omega
   refine hK.out _ _ hS5 (fun _=>?_);clear hK K;refine ay ?_;generalize V3.alloc (.cells #[I 0, .slice none 0 0,I 0, .slice none 0 0, .slice none 0 0] 198)=V5 at QV qJ YP HQ5 HV5 hS5 ⊢;generalize V3.heap.size=vb at HV5 hvs hvb ⊢;refine bT 6 (fun K hK=>?_);refine jE (o:=⟨none, .store 198 (.tmp 6) (.tmp 22),_,_,_,none⟩) rfl 198 _ _ rfl vb #[I ep, .slice A mm a,I lp, .slice R n r, .slice (some ⟨sb,0,none⟩) 1 (N+1)] rfl rfl 198 #[I 0, .slice none 0 0,I 0, .slice none 0 0, .slice none 0 0] HV5.out.var (by kernel_rfl) rfl (by kernel_rfl) ?_;have HF:=ae (sS.Zp YP.out QV.out qJ.out HV5.out HQ5.out hvs hvb hsb hN1 hN2);have Rh:pX (V5.setRow vb #[I ep, .slice A mm a,I lp, .slice R n r, .slice (some ⟨sb,0,none⟩) 1 (N+1)]) w.heap.size #[I ep, .slice A mm a,I lp, .slice R n r]:=HF.out.it.lu;refine hK.out _ _ Rh (fun _=>?_);clear hK K;try simp only [Act.put]
   refine wpAnyH_done (by kernel_rfl) ?_ _;go_wp2_with fail;go_meet;exact ⟨_,_,rfl,HF.out⟩
  ·refine jD (o:=⟨some 6, .alloc 198,_,_,_,none⟩) rfl 198 rfl #[I 0, .slice none 0 0,I 0, .slice none 0 0, .slice none 0 0] (by kernel_rfl) ?_;have QV:=ae (HID.out.below (ag V (.cells #[I 0, .slice none 0 0,I 0, .slice none 0 0, .slice none 0 0] 198)));have qJ:=ae (V7.out.below (ag V (.cells #[I 0, .slice none 0 0,I 0, .slice none 0 0, .slice none 0 0] 198)));have YP:=ae (ah HLD.out (ag V (.cells #[I 0, .slice none 0 0,I 0, .slice none 0 0, .slice none 0 0] 198)));have HV5:=ae (AV.new V #[I 0, .slice none 0 0,I 0, .slice none 0 0, .slice none 0 0] 198);have hS5:pX (V.alloc (.cells #[I 0, .slice none 0 0,I 0, .slice none 0 0, .slice none 0 0] 198)) w.heap.size #[I ep, .slice A mm a,I lp, .slice R n r]:=QV.out.lu;refine hK.out _ _ hS5 (fun _=>?_);clear hK K;refine ay ?_;generalize (V.alloc (.cells #[I 0, .slice none 0 0,I 0, .slice none 0 0, .slice none 0 0] 198))=V5 at QV qJ YP HV5 hS5 ⊢;obtain ⟨vb,hvb0⟩:∃b,V.heap.size=b:=⟨_,rfl⟩;rw [hvb0] at HV5 ⊢;have hvb:w.heap.size+2≤vb:=by omega
   clear hvb0;refine bT 3 (fun K hK=>?_);go_simp;have HI3:=ae (QV.out.below (ag V5 (.cells (Array.replicate (N+1) (I 0)) 3)));have HR3:=ae (qJ.out.below (ag V5 (.cells (Array.replicate (N+1) (I 0)) 3)));have KN:=ae (ah YP.out (ag V5 (.cells (Array.replicate (N+1) (I 0)) 3)));have xg:=ae (heap_alloc_last V5 (.cells (Array.replicate (N+1) (I 0)) 3));have hS3:pX (V5.alloc (.cells (Array.replicate (N+1) (I 0)) 3)) w.heap.size #[I ep, .slice A mm a,I lp, .slice R n r]:=HI3.out.lu;have tN:=ae (HV5.out.below (ag V5 (.cells (Array.replicate (N+1) (I 0)) 3)));have hvs:vb≠V5.heap.size:=by have:=HV5.out.lt;omega
   have hsb:w.heap.size+2≤V5.heap.size:=by have:=HV5.out.lt;omega
   refine hK.out _ _ hS3 (fun _=>?_);clear hK K;refine ay ?_;generalize V5.alloc (.cells (Array.replicate (N+1) (I 0)) 3)=V3 at HI3 HR3 KN xg tN hS3 ⊢;generalize V5.heap.size=sb at xg hvs hsb ⊢;refine mQ 4 ( .agg #[I ep, .slice A mm a,I lp, .slice R n r, .slice (some ⟨sb,0,none⟩) 1 (N+1)]) 22 rfl rfl hS3 (df rfl 198 _ rfl _ (by kernel_rfl)) ?_;refine ay ?_;refine bT 6 (fun K hK=>?_);refine jE (o:=⟨none, .store 198 (.tmp 6) (.tmp 22),_,_,_,none⟩) rfl 198 _ _ rfl vb #[I ep, .slice A mm a,I lp, .slice R n r, .slice (some ⟨sb,0,none⟩) 1 (N+1)] rfl rfl 198 #[I 0, .slice none 0 0,I 0, .slice none 0 0, .slice none 0 0] tN.out.var (by kernel_rfl) rfl (by kernel_rfl) ?_;have HF:=ae (sS.Zp KN.out HI3.out HR3.out tN.out xg.out hvs hvb hsb hN1 hN2);have Rh:pX (V3.setRow vb #[I ep, .slice A mm a,I lp, .slice R n r, .slice (some ⟨sb,0,none⟩) 1 (N+1)]) w.heap.size #[I ep, .slice A mm a,I lp, .slice R n r]:=HF.out.it.lu;refine hK.out _ _ Rh (fun _=>?_);clear hK K;try simp only [Act.put]
   refine wpAnyH_done (by kernel_rfl) ?_ _;go_wp2_with fail;go_meet;exact ⟨_,_,rfl,HF.out⟩
 case rest=>
  obtain ⟨vb,sb,rfl,ha⟩:=hcut;have HA:=ae ha;clear ha HI2 HR2 HL2 hmk hw1 hc h;go_wp2_with fail
  go_loopw [24] (fun i wr=>∃(k c:Nat) (S:Option Addr) (ss:List Int),k≤N∧i=I (k:Nat)∧ss.length=k+1∧ss[k]? =some (lD cl k)∧sS w [I ep, .slice A mm a,I lp, .slice R n r] vb (k+1) c S ss wr) (fun i _=>N - (intOf i).toNat)
  case atStart=>exact ⟨0,N+1,_,[0],Nat.zero_le _,rfl,rfl,rfl,HA.out⟩
  case round=>
   clear HA;obtain ⟨k,c,S,ss,hkN,rfl,hsl,hsk,hw⟩:=hrel;have HX0:=ae hw;have HSL:=ae hsl;have YT:=ae hsk;clear hw hsl hsk;by_cases hlt:k<N
   ·have i1:(k:Int)<(N:Int):=by omega
    obtain ⟨g,rfl,hg,hgw,hkc,hgc⟩:=HX0.out.there;obtain ⟨s,hs⟩:∃s,lD cl k=s:=⟨_,rfl⟩;obtain ⟨yk,hyk⟩:∃y,Bh cl ((k:Int)+1)=y:=⟨_,rfl⟩;have HYK:=ae (Iy.out ((k:Int)+1) (.slice (some ⟨g,0,none⟩) (k+1) c));have hyb:=HYB.out ((k:Int)+1);have hsb:=PO.out k hkN;rw [hs] at YT hsb;rw [hyk,e2] at HYK;rw [hyk] at hyb;have ET:Hid (lD cl (k+1)=s+yk):=ae (by rw [←hs,←hyk];rfl);clear hs hyk hgc;have ww:IntKind.i64.wrap (s+yk)=s+yk:=by rw [IntKind.wrap_i64];omega
    have hwk:IntKind.i64.wrap ((k:Int)+1)=(k:Int)+1:=by rw [IntKind.wrap_i64];omega
    have j0:(0:Int)≤(k:Int):=by omega
    have j1:(k:Int)<(k:Int)+1:=by omega
    go_upto_block 1 with fail
    go_cut [7] (fun p wx=>p=I (k:Nat)∧∃c2 S2,sS w [I ep, .slice A mm a,I lp, .slice R n r] vb (k+1+1) c2 S2 (ss++ [s+yk]) wx)
    case first=>
     go_upto_region 8 with fail;have sV:=ae HX0.out.drew;refine wp_region_held_drew (S:=fun _=>True) (by kernel_rfl) trivial (fun _=>?_);generalize wr.drew=V0 at sV ⊢;clear HX0 hgw;refine aO 0 (.pointer (some ⟨vb,4,none⟩)) 27 trivial (fun w' hSw=>?_) ?_
     ·clear hSw
      first|(go_simp;done)|(go_simp;with_reducible rfl)
     refine ay ?_;refine aO 2 (.pointer (some ⟨vb,4,none⟩)) 29 trivial (fun w' hSw=>?_) ?_
     ·clear hSw
      first|(go_simp;done)|(go_simp;with_reducible rfl)
     refine ay ?_;refine aO 4 (I (k:Int)) 31 trivial (fun w' hSw=>?_) ?_
     ·clear hSw
      first|(go_simp;done)|(go_simp;with_reducible rfl)
     refine ay ?_;refine aO 8 (I (k:Int)) 35 trivial (fun w' hSw=>?_) ?_
     ·clear hSw
      first|(go_simp;done)|(go_simp;with_reducible rfl)
     refine ay ?_;refine aO 9 (I ((k:Int)+1)) 36 trivial (fun w' hSw=>?_) ?_
     ·clear hSw
      first|(go_simp;done)|(go_simp;with_reducible rfl)
     refine ay ?_;apply memo (C:=(fun W=>sS w [I ep, .slice A mm a,I lp, .slice R n r] vb (k+1) c (some ⟨g,0,none⟩) ss W));intro tY;apply memo (C:=(fun W=>sS w [I ep, .slice A mm a,I lp, .slice R n r] vb (k+1) c (some ⟨g,0,none⟩) ss W));intro tX;apply memo (C:=(fun W=>sS w [I ep, .slice A mm a,I lp, .slice R n r] vb (k+1) c (some ⟨g,0,none⟩) ss W));intro BM;apply memo (C:=(fun W=>sS w [I ep, .slice A mm a,I lp, .slice R n r] vb (k+1) c (some ⟨g,0,none⟩) ss W));intro SB;apply memo (C:=(fun W=>sS w [I ep, .slice A mm a,I lp, .slice R n r] vb (k+1) c (some ⟨g,0,none⟩) ss W));intro yK;apply memo (C:=(fun W=>sS w [I ep, .slice A mm a,I lp, .slice R n r] vb (k+1) c (some ⟨g,0,none⟩) ss W));intro LD;apply memo (C:=(fun W=>sS w [I ep, .slice A mm a,I lp, .slice R n r] vb (k+1) c (some ⟨g,0,none⟩) ss W));intro M1_3;apply memo (C:=(fun W=>sS w [I ep, .slice A mm a,I lp, .slice R n r] vb (k+1) c (some ⟨g,0,none⟩) ss W));intro Oj;apply memo (C:=(fun W=>sS w [I ep, .slice A mm a,I lp, .slice R n r] vb (k+1) c (some ⟨g,0,none⟩) ss W));intro M1_7;apply memo (C:=(fun W=>sS w [I ep, .slice A mm a,I lp, .slice R n r] vb (k+1) c (some ⟨g,0,none⟩) ss W));intro M1;apply memo (C:=(fun W=>sS w [I ep, .slice A mm a,I lp, .slice R n r] vb (k+1) c (some ⟨g,0,none⟩) ss W));intro Gp;apply memo (C:=(fun W=>sS w [I ep, .slice A mm a,I lp, .slice R n r] vb (k+1) c (some ⟨g,0,none⟩) ss W));intro EX;apply memo (C:=(fun W=>sS w [I ep, .slice A mm a,I lp, .slice R n r] vb (k+1) c (some ⟨g,0,none⟩) ss W));intro SC;apply memo (C:=(fun W=>sS w [I ep, .slice A mm a,I lp, .slice R n r] vb (k+1) c (some ⟨g,0,none⟩) ss W));intro M3_6;apply memo (C:=(fun W=>sS w [I ep, .slice A mm a,I lp, .slice R n r] vb (k+1) c (some ⟨g,0,none⟩) ss W));intro Ol;apply memo (C:=(fun W=>sS w [I ep, .slice A mm a,I lp, .slice R n r] vb (k+1) c (some ⟨g,0,none⟩) ss W));intro M3_7;apply memo (C:=(fun W=>sS w [I ep, .slice A mm a,I lp, .slice R n r] vb (k+1) c (some ⟨g,0,none⟩) ss W));intro M3;apply memo (C:=(fun W=>sS w [I ep, .slice A mm a,I lp, .slice R n r] vb (k+1) c (some ⟨g,0,none⟩) ss W));intro M7_10;apply memo (C:=(fun W=>sS w [I ep, .slice A mm a,I lp, .slice R n r] vb (k+1) c (some ⟨g,0,none⟩) ss W));intro M7;refine wpAnyH_ready (rs:= [1,3,7]) (by kernel_rfl) (by simp) ?_;refine AllReadyH.cons rfl (fun K hK=>?_) (AllReadyH.cons rfl (fun K hK=>?_) (AllReadyH.cons rfl (fun K hK=>?_) AllReadyH.nil))
     ·have c4:=sV.out.var.cell 4;go_simp;clear c4;refine hK.out _ _ trivial (fun _=>?_);clear hK K;refine ay ?_;exact M1 _ sV.out
     ·have c4:=sV.out.var.cell 4;go_simp;clear c4;refine hK.out _ _ trivial (fun _=>?_);clear hK K;refine ay ?_;refine aO 5 (.pointer (some ⟨g,k,none⟩)) 32 trivial (fun w' hSw=>?_) ?_
      ·clear hSw
       first|(go_simp;done)|(go_simp;with_reducible rfl)
      refine ay ?_;exact M3 _ sV.out
     ·refine iq (o:=⟨some 34, .load 198 (.tmp 6),_,_,_,none⟩) rfl 198 _ rfl vb 0 rfl [I ep, .slice A mm a,I lp, .slice R n r,(.slice (some ⟨g,0,none⟩) (k+1) c)] _ (fun j v hv=>by rw [Nat.zero_add,sV.out.var.cell j];simpa using hv) Tryz.underlying198 rfl (by kernel_rfl) ?_;refine hK.out _ _ trivial (fun _=>?_);clear hK K;refine ay ?_;exact M7 _ sV.out
     ·intro V hV;have jb:=ae hV;clear hV;refine wpAnyH_ready (rs:= [1,3,10]) (by kernel_rfl) (by simp) ?_;refine AllReadyH.cons rfl (fun K hK=>?_) (AllReadyH.cons rfl (fun K hK=>?_) (AllReadyH.cons rfl (fun K hK=>?_) AllReadyH.nil))
      ·have c4:=jb.out.var.cell 4;go_simp;clear c4;refine hK.out _ _ trivial (fun _=>?_);clear hK K;refine ay ?_;exact M1_7 _ jb.out
      ·have c4:=jb.out.var.cell 4;go_simp;clear c4;refine hK.out _ _ trivial (fun _=>?_);clear hK K;refine ay ?_;refine aO 5 (.pointer (some ⟨g,k,none⟩)) 32 trivial (fun w' hSw=>?_) ?_
       ·clear hSw
        first|(go_simp;done)|(go_simp;with_reducible rfl)
       refine ay ?_;exact M3_7 _ jb.out
      ·go_simp;refine (HYK.out V jb.out.lo).mono ?_;rintro e W6 ⟨rfl,hb6⟩;have qA:=ae (jb.out.grow hb6);clear hb6;refine hK.out _ _ trivial (fun _=>?_);clear hK K;refine ay ?_;exact M7_10 _ qA.out
     ·intro V hV;have jb:=ae hV;clear hV;refine mP 1 3 (fun K hK=>?_) (fun K hK=>?_)
      ·have c4:=jb.out.var.cell 4;go_simp;clear c4;refine hK.out _ _ trivial (fun _=>?_);clear hK K;refine ay ?_;exact Oj _ jb.out
      ·have c4:=jb.out.var.cell 4;go_simp;clear c4;refine hK.out _ _ trivial (fun _=>?_);clear hK K;refine ay ?_;refine aO 5 (.pointer (some ⟨g,k,none⟩)) 32 trivial (fun w' hSw=>?_) ?_
       ·clear hSw
        first|(go_simp;done)|(go_simp;with_reducible rfl)
       refine ay ?_;exact Ol _ jb.out
     ·intro V hV;have jb:=ae hV;clear hV;refine wpAnyH_ready (rs:= [1,6,7]) (by kernel_rfl) (by simp) ?_;refine AllReadyH.cons rfl (fun K hK=>?_) (AllReadyH.cons rfl (fun K hK=>?_) (AllReadyH.cons rfl (fun K hK=>?_) AllReadyH.nil))
      ·have c4:=jb.out.var.cell 4;go_simp;clear c4;refine hK.out _ _ trivial (fun _=>?_);clear hK K;refine ay ?_;exact M1_3 _ jb.out
      ·obtain ⟨_,e,_,_,_,hgc⟩:=jb.out.there;injection e with e;injection e with e;subst e;have cs:=hgc k s YT.out;clear hgc;go_simp;clear cs;refine hK.out _ _ trivial (fun _=>?_);clear hK K;refine ay ?_;exact M3_6 _ jb.out
      ·refine iq (o:=⟨some 34, .load 198 (.tmp 6),_,_,_,none⟩) rfl 198 _ rfl vb 0 rfl [I ep, .slice A mm a,I lp, .slice R n r,(.slice (some ⟨g,0,none⟩) (k+1) c)] _ (fun j v hv=>by rw [Nat.zero_add,jb.out.var.cell j];simpa using hv) Tryz.underlying198 rfl (by kernel_rfl) ?_;refine hK.out _ _ trivial (fun _=>?_);clear hK K;refine ay ?_;exact M3_7 _ jb.out
     ·intro V hV;have jb:=ae hV;clear hV;refine wpAnyH_ready (rs:= [1,6,10]) (by kernel_rfl) (by simp) ?_;refine AllReadyH.cons rfl (fun K hK=>?_) (AllReadyH.cons rfl (fun K hK=>?_) (AllReadyH.cons rfl (fun K hK=>?_) AllReadyH.nil))
      ·have c4:=jb.out.var.cell 4;go_simp;clear c4;refine hK.out _ _ trivial (fun _=>?_);clear hK K;refine ay ?_;exact LD _ jb.out
      ·obtain ⟨_,e,_,_,_,hgc⟩:=jb.out.there;injection e with e;injection e with e;subst e;have cs:=hgc k s YT.out;clear hgc;go_simp;clear cs;refine hK.out _ _ trivial (fun _=>?_);clear hK K;refine ay ?_;exact SC _ jb.out
      ·go_simp;refine (HYK.out V jb.out.lo).mono ?_;rintro e W14 ⟨rfl,hb14⟩;have HX14:=ae (jb.out.grow hb14);clear hb14;refine hK.out _ _ trivial (fun _=>?_);clear hK K;refine ay ?_;exact Ol _ HX14.out
     ·intro V hV;have jb:=ae hV;clear hV;refine mP 1 6 (fun K hK=>?_) (fun K hK=>?_)
      ·have c4:=jb.out.var.cell 4;go_simp;clear c4;refine hK.out _ _ trivial (fun _=>?_);clear hK K;refine ay ?_;exact yK _ jb.out
      ·obtain ⟨_,e,_,_,_,hgc⟩:=jb.out.there;injection e with e;injection e with e;subst e;have cs:=hgc k s YT.out;clear hgc;go_simp;clear cs;refine hK.out _ _ trivial (fun _=>?_);clear hK K;refine ay ?_;refine aO 11 (I (s+yk)) 38 trivial (fun w' hSw=>?_) ?_
       ·clear hSw
        first|(go_simp;done)|(go_simp;with_reducible rfl)
       refine ay ?_;exact EX _ jb.out
     ·intro V hV;have jb:=ae hV;clear hV;refine mP 1 7 (fun K hK=>?_) (fun K hK=>?_)
      ·have c4:=jb.out.var.cell 4;go_simp;clear c4;refine hK.out _ _ trivial (fun _=>?_);clear hK K;refine ay ?_;exact SB _ jb.out
      ·refine iq (o:=⟨some 34, .load 198 (.tmp 6),_,_,_,none⟩) rfl 198 _ rfl vb 0 rfl [I ep, .slice A mm a,I lp, .slice R n r,(.slice (some ⟨g,0,none⟩) (k+1) c)] _ (fun j v hv=>by rw [Nat.zero_add,jb.out.var.cell j];simpa using hv) Tryz.underlying198 rfl (by kernel_rfl) ?_;refine hK.out _ _ trivial (fun _=>?_);clear hK K;refine ay ?_;exact SC _ jb.out
     ·intro V hV;have jb:=ae hV;clear hV;refine mP 1 10 (fun K hK=>?_) (fun K hK=>?_)
      ·have c4:=jb.out.var.cell 4;go_simp;clear c4;refine hK.out _ _ trivial (fun _=>?_);clear hK K;refine ay ?_;exact BM _ jb.out
      ·go_simp;refine (HYK.out V jb.out.lo).mono ?_;rintro e W20 ⟨rfl,hb20⟩;have HX20:=ae (jb.out.grow hb20);clear hb20;refine hK.out _ _ trivial (fun _=>?_);clear hK K;refine ay ?_;refine aO 11 (I (s+yk)) 38 trivial (fun w' hSw=>?_) ?_
       ·clear hSw
        first|(go_simp;done)|(go_simp;with_reducible rfl)
       refine ay ?_;exact EX _ HX20.out
     ·intro V hV;have jb:=ae hV;clear hV;refine mP 1 12 (fun K hK=>?_) (fun K hK=>?_)
      ·have c4:=jb.out.var.cell 4;go_simp;clear c4;refine hK.out _ _ trivial (fun _=>?_);clear hK K;refine ay ?_;exact tX _ jb.out
      ·go_simp;refine hK.out _ _ trivial (fun _=>?_);clear hK K;refine ay ?_;exact Gp V jb.out
     ·intro V1 hV;have Ls:=ae hV;have jb:=ae (hV.grow (ag V1 (.cells #[I (s+yk)] 3)));clear hV;refine bT 1 (fun K hK=>?_);have c4:=jb.out.var.cell 4;go_simp;clear c4;refine hK.out _ _ trivial (fun _=>?_);clear hK K;refine ay ?_;exact tY V1 Ls.out
     ·intro V hV;have jb:=ae hV;clear hV;refine mP 3 7 (fun K hK=>?_) (fun K hK=>?_)
      ·have c4:=jb.out.var.cell 4;go_simp;clear c4;refine hK.out _ _ trivial (fun _=>?_);clear hK K;refine ay ?_;refine aO 5 (.pointer (some ⟨g,k,none⟩)) 32 trivial (fun w' hSw=>?_) ?_
       ·clear hSw
        first|(go_simp;done)|(go_simp;with_reducible rfl)
       refine ay ?_;exact M1_3 _ jb.out
      ·refine iq (o:=⟨some 34, .load 198 (.tmp 6),_,_,_,none⟩) rfl 198 _ rfl vb 0 rfl [I ep, .slice A mm a,I lp, .slice R n r,(.slice (some ⟨g,0,none⟩) (k+1) c)] _ (fun j v hv=>by rw [Nat.zero_add,jb.out.var.cell j];simpa using hv) Tryz.underlying198 rfl (by kernel_rfl) ?_;refine hK.out _ _ trivial (fun _=>?_);clear hK K;refine ay ?_;exact M1_7 _ jb.out
     ·intro V hV;have jb:=ae hV;clear hV;refine mP 3 10 (fun K hK=>?_) (fun K hK=>?_)
      ·have c4:=jb.out.var.cell 4;go_simp;clear c4;refine hK.out _ _ trivial (fun _=>?_);clear hK K;refine ay ?_;refine aO 5 (.pointer (some ⟨g,k,none⟩)) 32 trivial (fun w' hSw=>?_) ?_
       ·clear hSw
        first|(go_simp;done)|(go_simp;with_reducible rfl)
       refine ay ?_;exact LD _ jb.out
      ·go_simp;refine (HYK.out V jb.out.lo).mono ?_;rintro e W27 ⟨rfl,hb27⟩;have HX27:=ae (jb.out.grow hb27);clear hb27;refine hK.out _ _ trivial (fun _=>?_);clear hK K;refine ay ?_;exact Oj _ HX27.out
     ·intro V hV;have jb:=ae hV;clear hV;refine bT 3 (fun K hK=>?_);have c4:=jb.out.var.cell 4;go_simp;clear c4;refine hK.out _ _ trivial (fun _=>?_);clear hK K;refine ay ?_;refine aO 5 (.pointer (some ⟨g,k,none⟩)) 32 trivial (fun w' hSw=>?_) ?_
      ·clear hSw
       first|(go_simp;done)|(go_simp;with_reducible rfl)
      refine ay ?_;exact yK _ jb.out
     ·intro V hV;have jb:=ae hV;clear hV;refine mP 6 7 (fun K hK=>?_) (fun K hK=>?_)
      ·obtain ⟨_,e,_,_,_,hgc⟩:=jb.out.there;injection e with e;injection e with e;subst e;have cs:=hgc k s YT.out;clear hgc;go_simp;clear cs;refine hK.out _ _ trivial (fun _=>?_);clear hK K;refine ay ?_;exact SB _ jb.out
      ·refine iq (o:=⟨some 34, .load 198 (.tmp 6),_,_,_,none⟩) rfl 198 _ rfl vb 0 rfl [I ep, .slice A mm a,I lp, .slice R n r,(.slice (some ⟨g,0,none⟩) (k+1) c)] _ (fun j v hv=>by rw [Nat.zero_add,jb.out.var.cell j];simpa using hv) Tryz.underlying198 rfl (by kernel_rfl) ?_;refine hK.out _ _ trivial (fun _=>?_);clear hK K;refine ay ?_;exact LD _ jb.out
     ·intro V hV;have jb:=ae hV;clear hV;refine mP 6 10 (fun K hK=>?_) (fun K hK=>?_)
      ·obtain ⟨_,e,_,_,_,hgc⟩:=jb.out.there;injection e with e;injection e with e;subst e;have cs:=hgc k s YT.out;clear hgc;go_simp;clear cs;refine hK.out _ _ trivial (fun _=>?_);clear hK K;refine ay ?_;exact BM _ jb.out
      ·go_simp;refine (HYK.out V jb.out.lo).mono ?_;rintro e W32 ⟨rfl,hb32⟩;have HX32:=ae (jb.out.grow hb32);clear hb32;refine hK.out _ _ trivial (fun _=>?_);clear hK K;refine ay ?_;exact yK _ HX32.out
     ·intro V hV;have jb:=ae hV;clear hV;refine bT 6 (fun K hK=>?_);obtain ⟨_,e,_,_,_,hgc⟩:=jb.out.there;injection e with e;injection e with e;subst e;have cs:=hgc k s YT.out;clear hgc;go_simp;clear cs;refine hK.out _ _ trivial (fun _=>?_);clear hK K;refine ay ?_;refine aO 11 (I (s+yk)) 38 trivial (fun w' hSw=>?_) ?_
      ·clear hSw
       first|(go_simp;done)|(go_simp;with_reducible rfl)
      refine ay ?_;exact tX _ jb.out
     ·intro V hV;have jb:=ae hV;clear hV;refine bT 7 (fun K hK=>?_);refine iq (o:=⟨some 34, .load 198 (.tmp 6),_,_,_,none⟩) rfl 198 _ rfl vb 0 rfl [I ep, .slice A mm a,I lp, .slice R n r,(.slice (some ⟨g,0,none⟩) (k+1) c)] _ (fun j v hv=>by rw [Nat.zero_add,jb.out.var.cell j];simpa using hv) Tryz.underlying198 rfl (by kernel_rfl) ?_;refine hK.out _ _ trivial (fun _=>?_);clear hK K;refine ay ?_;exact BM _ jb.out
     ·intro V hV;have jb:=ae hV;clear hV;refine bT 10 (fun K hK=>?_);go_simp;refine (HYK.out V jb.out.lo).mono ?_;rintro e W35 ⟨rfl,hb35⟩;have HX35:=ae (jb.out.grow hb35);clear hb35;refine hK.out _ _ trivial (fun _=>?_);clear hK K;refine ay ?_;refine aO 11 (I (s+yk)) 38 trivial (fun w' hSw=>?_) ?_
      ·clear hSw
       first|(go_simp;done)|(go_simp;with_reducible rfl)
      refine ay ?_;exact tX _ HX35.out
     ·intro V hV;have jb:=ae hV;clear hV;refine bT 12 (fun K hK=>?_);go_simp;refine hK.out _ _ trivial (fun _=>?_);clear hK K;refine ay ?_;exact tY V jb.out
     ·intro V1 hV;have Ls:=ae hV;have jb:=ae (hV.grow (ag V1 (.cells #[I (s+yk)] 3)));clear hV;refine bT 13 (fun K hK=>?_);have vI:=Ls.out.var.lt;have hvge:=Ls.out.ge;refine step_append_lies _ (by rfl) _ _ _ (by rfl) (w.heap.size+2) 3 i0 (.int .i64 0) 1 8 Tryz.underlying44 HI.out sU.out jS.out jr.out rfl (by omega) (.slice (some ⟨g,0,none⟩) (k+1) c) (k+1) (ss.map I) (by rfl) jb.out.own ⟨V1.heap.size,0,none⟩ 1 1 [I (s+yk)] (by rfl) rfl (dL V1 _ _ _ rfl) (fun y hy=>by rw [List.mem_singleton.1 hy];rfl) (by omega) (by unfold maxLen;omega) (by omega) (by simp;omega) _ rfl ?_;intro gg cap w6 hown6 hgrow6 fV _;have jG:=ae (Ls.out.add rfl rfl hown6 hgrow6 fV);have VH:Hid (AV vb 198 #[I ep, .slice A mm a,I lp, .slice R n r,(.slice (some ⟨g,0,none⟩) (k+1) c)] w6):=ae ⟨(hgrow6.block _ (by simp;omega) Ls.out.ne).trans ((Below.heap_alloc _ _ _ vI).trans Ls.out.var.var)⟩;clear hown6 hgrow6 fV;refine hK.out _ _ trivial (fun _=>?_);clear hK K;try simp only [Act.put,List.setIfInBounds_toArray]
      refine aO 14 (.pointer (some ⟨vb,4,none⟩)) 41 trivial (fun w' hSw=>?_) ?_
      ·clear hSw
       first|(go_simp;done)|(go_simp;with_reducible rfl)
      try simp only [Act.put]
      refine bT 15 (fun K hK=>?_);have c4:=VH.out.cell 4;have f4:=VH.out.gG 4;go_simp;refine hK.out _ _ trivial (fun _=>?_);clear hK K;refine wpAnyH_done (by kernel_rfl) ?_ _;go_wp2_with fail;go_meet;exact ⟨rfl,_,_,jG.out⟩
    case rest=>
     obtain ⟨rfl,c2,S2,hw2⟩:=hcut;have yI:=ae hw2;clear hw2 HX0;go_wp2_with fail;go_roundw
     case rel=>exact ⟨k+1,c2,S2,_,by omega,by go_num,by rw [bF,HSL.out];rfl,by rw [List.getElem?_append_right (by rw [HSL.out];omega),HSL.out,Nat.sub_self,ET.out];rfl,yI.out⟩
     case measure=>simp [intOf];omega
   ·have i1:¬(k:Int)<(N:Int):=by omega
    have hkN2:k=N:=by omega
    have kY:=ae hkN2;have rv:=HX0.out.r;have tJ:=ae rv;clear rv hkN2;go_wp2_with (first
     |((with_reducible refine dM 198 ?_);go_must (refine bG rfl _ _ rfl vb rfl #[I ep, .slice A mm a,I lp, .slice R n r, .slice S (k+1) c] HX0.out.var.lu _ Tryz.underlying198 rfl (by kernel_rfl) ?_))
     |((with_reducible refine bV 198 ?_);go_must (refine wpList_store_row rfl _ _ _ rfl (w.heap.size+1) #[I ep, .slice A mm a,I lp, .slice R n r, .slice S (k+1) c] rfl rfl 198 #[I 0, .slice none 0 0,I 0, .slice none 0 0, .slice none 0 0] tJ.out.var (by kernel_rfl) rfl (by simp [Value.oneCell']) ?_)))
    refine bodyPost_ret (v:= .tuple #[.agg #[I ep, .slice A mm a,I lp, .slice R n r, .slice S (k+1) c], .bool true]) (bQ rfl _ _ (w.heap.size+1) _ #[I ep, .slice A mm a,I lp, .slice R n r, .slice S (k+1) c] (0,0) _ rfl (setRow_heap _ _ _ _ _ _ tJ.out.var) Tryz.underlying198 rfl (by kernel_rfl) _ rfl) rfl ?_;obtain ⟨g,rfl,hg,hgw,hkc,hgc⟩:=HX0.out.there;refine ⟨some ⟨g,0,none⟩,k+1,c,ss,by rw [e2],?_,HSL.out,?_, .inr ⟨g,0,rfl,by rw [setRow_size];exact hgw,fun j hj=>?_⟩,hkc,aC HX0.out.lo (by omega) _⟩
    ·rw [ES.out,kY.out]
    ·rw [Nat.add_sub_cancel,YT.out,kY.out,HST.out]
    ·rw [Nat.zero_add];have hb:(wr.setRow (w.heap.size+1) #[I ep, .slice A mm a,I lp, .slice R n r, .slice (some ⟨g,0,none⟩) (k+1) c]).heap[g]? =wr.heap[g]? :=setRow_other _ _ g _ (by omega);have h7:(wr.setRow (w.heap.size+1) #[I ep, .slice A mm a,I lp, .slice R n r, .slice (some ⟨g,0,none⟩) (k+1) c]).cell? ⟨g,j,none⟩=wr.cell? ⟨g,j,none⟩:=by
      simp only [World.cell?,hb]
     rw [h7];exact hgc j _ (by rw [dK hj];rfl)
theorem cycleG (c:Cal) (A R S:Option Addr) (a r k0 cp:Nat) (ss:List Int) (w:World) (hc:kZ c) (hk:k0=Oy c+1) (hl:ss.length=k0) (hs:ss[k0 - 1]? =some (KR c)) (hI:fO w w.heap.size S ss) (hkc:k0≤cp):Calls Tryz.prog 99 #[.agg (kJ c A a R r (.slice S k0 cp))] w (Gives (.tuple #[I (Oy c:Int),I (KR c)]) w):=by
 have hcb:=Mc hc;obtain ⟨k,hky⟩:∃k,Oy c=k:=⟨_,rfl⟩;rw [hky] at hk hcb;subst hk;rw [Nat.add_sub_cancel] at hs;have hkl:k<ss.length:=by omega
 obtain ⟨dd,hdd⟩:∃d,KR c=d:=⟨_,rfl⟩;rw [hky,hdd];rw [hdd] at hs;rcases hI with h0|⟨b,off,rfl,hb,hcl⟩
 ·omega
 have f:w.cell? ⟨b,off+k,none⟩=some (I dd):=by rw [hcl k hkl,hs];rfl
 have hne:¬b=w.heap.size:=by omega
 have hk0:(0:Int)≤(k:Int):=by omega
 have hkb:(k:Int)≤400:=by omega
 have hk1:(k:Int)<(k:Int)+1:=by omega
 obtain ⟨n,hn⟩:∃n,c.rules.length=n:=⟨_,rfl⟩;obtain ⟨mm,hmm⟩:∃n,c.aj.length=n:=⟨_,rfl⟩;obtain ⟨ep,rO⟩:∃n,c.aI=n:=⟨_,rfl⟩;obtain ⟨lp,hlp⟩:∃n,c.aY=n:=⟨_,rfl⟩;have e0:kJ c A a R r (.slice (some ⟨b,off,none⟩) (k+1) cp)= #[I ep, .slice A mm a,I lp, .slice R n r, .slice (some ⟨b,off,none⟩) (k+1) cp]:=by rw [←hn,←hmm,←rO,←hlp];rfl
 rw [e0];have HV:=ae (kT.start w #[I ep, .slice A mm a,I lp, .slice R n r, .slice (some ⟨b,off,none⟩) (k+1) cp] 198);clear hc hcl hs hl e0 hn hmm rO hlp hdd hky hcb;go_enter Tryz.func99,Tryz.ntmps99;go_wp2_with fail;generalize w.alloc (.cells #[I ep, .slice A mm a,I lp, .slice R n r, .slice (some ⟨b,off,none⟩) (k+1) cp] 198)=W0 at HV ⊢;have g0:W0.cell? ⟨b,off+k,none⟩=some (I dd):=(HV.out.up.cell (p:=⟨b,off+k,none⟩) hb).trans f;have v1:W0.cell? ⟨w.heap.size,4,none⟩=some (.slice (some ⟨b,off,none⟩) (k+1) cp):=HV.out.row.2 4;clear f;go_wp2_with fail;go_quiet (fail);go_wp2_with fail;go_ret2;exact ⟨rfl,ah HV.out.up (below_drewN' _ _)⟩
theorem P9 (c:Cal) (A R:Option Addr) (a r:Nat) (w:World) (hc:kZ c) (h:oC w w.heap.size A R c):Calls Tryz.prog 75 #[.agg (aG c A a R r)] w (Gives (.tuple #[I (Oy c:Int),I (KR c),I 0]) w):=by
 have HOP:=ae (fun (W:World) (hb:Below w.heap.size w W)=>LW c A R a r W hc (h.grow hb));have vK:=ae (fun (S:Option Addr) (k cp:Nat) (ss:List Int) (W:World)=>cycleG c A R S a r k cp ss W hc);unfold OpnG at HOP;obtain ⟨yy,hyy⟩:∃y,Oy c=y:=⟨_,rfl⟩;obtain ⟨dd,hdd⟩:∃d,KR c=d:=⟨_,rfl⟩;rw [hyy,hdd] at HOP vK ⊢;obtain ⟨n,hn⟩:∃n,c.rules.length=n:=⟨_,rfl⟩;obtain ⟨mm,hmm⟩:∃n,c.aj.length=n:=⟨_,rfl⟩;obtain ⟨ep,rO⟩:∃n,c.aI=n:=⟨_,rfl⟩;obtain ⟨lp,hlp⟩:∃n,c.aY=n:=⟨_,rfl⟩;have e1:aG c A a R r= #[I ep, .slice A mm a,I lp, .slice R n r]:=by rw [←hn,←hmm,←rO,←hlp];rfl
 have e2:∀S,kJ c A a R r S= #[I ep, .slice A mm a,I lp, .slice R n r,S]:=fun S=>by rw [←hn,←hmm,←rO,←hlp];rfl
 simp only [e1,e2] at HOP vK ⊢;have HV:=ae (kT.start w #[I ep, .slice A mm a,I lp, .slice R n r] 47);clear hc h hn hmm rO hlp e1 e2 hyy hdd;go_enter Tryz.func75,Tryz.ntmps75;go_wp2_with fail;refine (HOP.out _ HV.out.up).mono ?_;rintro e w1 ⟨S,k,cp,ss,rfl,hk,hl,hs,hI,hkc,hb1⟩;have pM:=ae (HV.out.grow hb1);have HK:=ae hk;have HL:=ae hl;have HS:=ae hs;have HII:=ae hI;have HKC:=ae hkc;clear hb1 HV hk hl hs hI hkc;have hone:(#[I ep, .slice A mm a,I lp, .slice R n r, .slice S k cp]:Array Value).all (·.oneCell')=true:=by simp [Value.oneCell']
 go_wp2_with (first
  |((with_reducible refine bu 198 ?_);refine aN rfl 198 rfl #[I 0, .slice none 0 0,I 0, .slice none 0 0, .slice none 0 0] (by kernel_rfl) ?_)
  |((with_reducible refine bV 198 ?_);go_must (refine wpList_store_row rfl _ _ _ rfl w1.heap.size #[I ep, .slice A mm a,I lp, .slice R n r, .slice S k cp] rfl rfl 198 #[I 0, .slice none 0 0,I 0, .slice none 0 0, .slice none 0 0] (heap_alloc_last w1 _) (by kernel_rfl) rfl hone ?_))
  |((with_reducible refine dM 198 ?_);go_must (refine bG rfl _ _ rfl w1.heap.size rfl #[I ep, .slice A mm a,I lp, .slice R n r, .slice S k cp] (AV.oH (AV.new w1 #[I 0, .slice none 0 0,I 0, .slice none 0 0, .slice none 0 0] 198) #[I ep, .slice A mm a,I lp, .slice R n r, .slice S k cp]).lu _ Tryz.underlying198 rfl (by kernel_rfl) ?_)))
 have hb2:Below w1.heap.size w1 ((w1.alloc (.cells #[I 0, .slice none 0 0,I 0, .slice none 0 0, .slice none 0 0] 198)).setRow w1.heap.size #[I ep, .slice A mm a,I lp, .slice R n r, .slice S k cp]):=aC (ag w1 _) (Nat.le_refl _) _;generalize (w1.alloc (.cells #[I 0, .slice none 0 0,I 0, .slice none 0 0, .slice none 0 0] 198)).setRow w1.heap.size #[I ep, .slice A mm a,I lp, .slice R n r, .slice S k cp]=W2 at hb2 ⊢;have ni:=ae (pM.out.grow hb2);have HI2:=ae ((HII.out.keep hb2).more hb2.size);clear hb2;refine (vK.out S k cp ss W2 HK.out HL.out HS.out HI2.out HKC.out).mono ?_;rintro e w3 ⟨rfl,hb3⟩;have tN:=ae (ni.out.grow hb3);clear hb3;go_wp2_with fail
 go_ret3
 exact ⟨rfl,tN.out.up⟩
end Go.Proofs.YtdibbemgpikgjaaGreat
