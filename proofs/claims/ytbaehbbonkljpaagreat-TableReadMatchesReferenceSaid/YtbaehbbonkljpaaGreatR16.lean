/- The texts Je, Jf, Ng1, in this order. -/
import Derived.Test.YtbaehbbonkljpaaGreatR00
import Derived.Test.YtbaehbbonkljpaaGreatR12
import Derived.Test.YtbaehbbonkljpaaGreatR15
set_option maxRecDepth 10000
set_option maxHeartbeats 8000000
namespace Go.Proofs.YtbaehbbonkljpaaGreat
open Go Go.RowKit
def gZ (c:Cal):Nat→Int
 |0=>0
 |k+1=>gZ c k+uw c ((k:Int)+1)
theorem vG (c:Cal) (k:Nat) (hc:eH c):(k:Int)≤gZ c k∧gZ c k≤656*(k:Int):=by
 induction k with
 |zero=>exact ⟨by show (0:Int)≤0;omega,by show (0:Int)≤656*0;omega⟩
 |succ k ih=>
  have h1:=lD c ((k:Int)+1) hc;show _≤gZ c k+uw c ((k:Int)+1)∧gZ c k+uw c ((k:Int)+1)≤_;omega
def Il (c:Cal):Nat:=(jO c.rules 1).getD 0
def GH (c:Cal):Int:=gZ c (Il c)
theorem EX {c:Cal} (hc:eH c):jO c.rules 1=some (Il c)∧1≤Il c∧Il c≤400:=by
 have h:=hc.per;unfold Il;cases hp:jO c.rules 1 with
 |none=>rw [hp] at h;cases h
 |some N=>exact ⟨rfl,NY c.rules 1 N (by omega) (by omega) hp⟩
theorem KN {c:Cal} (hc:eH c):1≤GH c∧GH c≤262400:=by
 have h1:=EX hc;have h2:=vG c (Il c) hc;unfold GH;omega
theorem rE.Zw {w W:World} {ep lp:Int} {A R:Option Addr} {a n r N mm vb sb:Nat} (hL:Below w.heap.size w W) (hI:AV w.heap.size 50 #[I ep, .slice A mm a,I lp, .slice R n r] W) (hR:AV (w.heap.size+1) (204) #[I 0, .slice none 0 0,I 0, .slice none 0 0, .slice none 0 0] W) (hV:AV vb (204) #[I 0, .slice none 0 0,I 0, .slice none 0 0, .slice none 0 0] W)
  (hQ:W.heap[sb]? =some (.cells (Array.replicate (N+1) (I 0)) 3 (0,0))) (hvs:vb≠sb) (hvb:w.heap.size+2≤vb) (hsb:w.heap.size+2≤sb) (hN:1≤N) (hN2:N≤400):
  rE w [I ep, .slice A mm a,I lp, .slice R n r] vb 1 (N+1) (some ⟨sb,0,none⟩) [0] (W.setRow vb #[I ep, .slice A mm a,I lp, .slice R n r, .slice (some ⟨sb,0,none⟩) 1 (N+1)]):=by
 refine ⟨aB hL (by omega) _,hI.qO (by omega) _,hR.qO (by omega) _,hvb,hV.oO _,⟨rfl, .inr ⟨sb,N+1,Array.replicate (N+1) (I 0),rfl,hsb,(setRow_other _ _ sb _ (Ne.symm hvs)).trans hQ,by omega,?_,by simp,?_⟩⟩,?_⟩
 ·unfold maxLen;omega
 ·rw [Array.toList_replicate,List.replicate_succ];rfl
 ·intro e;have:vb=sb:=by simpa [Value.ownBlock] using e
  exact hvs this
def OpnG (w:World) (cl:Cal) (A:Option Addr) (a:Nat) (R:Option Addr) (r:Nat) (e:Ending) (w':World):Prop:=
 ∃(S:Option Addr) (k cp:Nat) (ss:List Int),e= .returned (.tuple #[.agg (jK cl A a R r (.slice S k cp)), .bool true])∧k=Il cl+1∧ss.length=k∧ss[k - 1]? =some (GH cl)∧jU w' w'.heap.size S ss∧k≤cp∧Below w.heap.size w w'
theorem KG (cl:Cal) (A R:Option Addr) (a r:Nat) (w:World) (hc:eH cl) (h:nD w w.heap.size A R cl):Calls Tryz.prog 106 #[.agg (aH cl A a R r)] w (OpnG w cl A a R r):=by
 have jJ:=ae (fun (W:World) (hb:Below w.heap.size w W)=>nJ cl A R a r W (h.grow hb));obtain ⟨n,hn⟩:∃n,cl.rules.length=n:=⟨_,rfl⟩;have Ha:=ae (fun (W:World) (hb:Below w.heap.size w W)=>IP cl.rules R r n W ((h.rules.keep hb).more hb.size) hn (by have:=hc.rl;omega));have JK:=ae (fun (y:Int) (S:Value) (W:World) (hb:Below w.heap.size w W)=>ZF cl A R a r S y W hc (h.grow hb));have Vw:=ae (fun (y:Int)=>lD cl y hc);obtain ⟨N,hNe⟩:∃N,Il cl=N:=⟨_,rfl⟩;obtain ⟨hN,hN1,hN2⟩:=EX hc;rw [hNe] at hN hN1 hN2;rw [hN] at Ha;unfold XI at Ha;have HST:Hid (gZ cl N=GH cl):=ae (by unfold GH;rw [hNe]);have DI:=ae hNe;have JW:Hid (∀k≤N,0≤gZ cl k∧gZ cl k≤262400):=ae (fun k hk=>by have:=vG cl k hc;omega);have hmk:=PE N (by omega);obtain ⟨i0,hi,hq0,hq1,hq2⟩:=info_parts sN;have HI:=ae hi;have mP:=ae hq0;have iM:=ae hq1;have iH:=ae hq2;clear hi hq0 hq1 hq2;obtain ⟨mm,hmm⟩:∃n,cl.aj.length=n:=⟨_,rfl⟩;obtain ⟨ep,lL⟩:∃n,cl.aJ=n:=⟨_,rfl⟩;obtain ⟨lp,hlp⟩:∃n,cl.aY=n:=⟨_,rfl⟩;have e1:aH cl A a R r= #[I ep, .slice A mm a,I lp, .slice R n r]:=by rw [←hn,←hmm,←lL,←hlp];rfl
 have e2:∀S,jK cl A a R r S= #[I ep, .slice A mm a,I lp, .slice R n r,S]:=fun S=>by rw [←hn,←hmm,←lL,←hlp];rfl
 rw [oG hc,e1] at jJ;rw [e1];clear hn hmm lL hlp hN hNe;have HV:=ae (AV.new w #[I ep, .slice A mm a,I lp, .slice R n r] 50);go_enter Tryz.func106,Tryz.ntmps106;go_wp2_with fail;have HR:=ae (AV.new (w.alloc (.cells #[I ep, .slice A mm a,I lp, .slice R n r] 50)) #[I 0, .slice none 0 0,I 0, .slice none 0 0, .slice none 0 0] 204);have HI0:=ae (HV.out.below (ag _ (.cells #[I 0, .slice none 0 0,I 0, .slice none 0 0, .slice none 0 0] 204)));have HL0:=ae (ai (ag w (.cells #[I ep, .slice A mm a,I lp, .slice R n r] 50)) (ag _ (.cells #[I 0, .slice none 0 0,I 0, .slice none 0 0, .slice none 0 0] 204)));rw [nV w] at HR;generalize (w.alloc (.cells #[I ep, .slice A mm a,I lp, .slice R n r] 50)).alloc (.cells #[I 0, .slice none 0 0,I 0, .slice none 0 0, .slice none 0 0] 204)=W0 at HR HI0 HL0 ⊢;refine (jJ.out _ HL0.out).mono ?_;rintro e w1 ⟨rfl,hb1⟩;have HR1:=ae (HR.out.below hb1);have HI1:=ae (HI0.out.below hb1);have OC:=ae (ai HL0.out hb1);have v3:=HI1.out.cell 3;clear hb1 HR HI0 HL0 HV jJ;go_wp2_with fail;refine (Ha.out _ OC.out).mono ?_;rintro e w2 ⟨rfl,hb2⟩;have HR2:=ae (HR1.out.below hb2);have HI2:=ae (HI1.out.below hb2);have HL2:=ae (ai OC.out hb2);clear hb2 HR1 HI1 OC Ha v3;go_upto_region 4 with fail;have hw1:IntKind.i64.wrap ((N:Int)+1)=(N:Int)+1:=by rw [IntKind.wrap_i64];omega
 go_cut [6] (fun p wx=>∃vb sb,p= .pointer (some ⟨vb,0,none⟩)∧rE w [I ep, .slice A mm a,I lp, .slice R n r] vb 1 (N+1) (some ⟨sb,0,none⟩) [0] wx)
 case first=>
  have hS0:oL w2.drew w.heap.size #[I ep, .slice A mm a,I lp, .slice R n r]:=HI2.out.drew.kz;refine wp_region_held_drew (S:=fun W=>oL W w.heap.size #[I ep, .slice A mm a,I lp, .slice R n r]) (by kernel_rfl) hS0 (fun _=>?_);have HID:=ae HI2.out.drew;have Vr:=ae HR2.out.drew;have HLD:Hid (Below w.heap.size w w2.drew):=ae (ai HL2.out ((Below.refl _ w2).drew));generalize w2.drew=V at hS0 HID Vr HLD ⊢;clear HI2 HR2 HL2;have hVr:=Vr.out.lt;refine oD 0 ( .agg #[I ep, .slice A mm a,I lp, .slice R n r]) 18 rfl rfl hS0 (yieldsIf_load_mid rfl 50 _ rfl w.heap.size (0) rfl [I ep, .slice A mm a,I lp, .slice R n r] _ (fun _ h=>fun j v hv=>by rw [Nat.zero_add,h.2 j];simpa using hv) Tryz.underlying50 rfl (by kernel_rfl)) ?_;refine aA ?_;refine aP 1 (I (N:Int)) 19 hS0 (fun w' hSw=>?_) ?_
  ·clear hSw
   first|(go_simp;done)|(go_simp;with_reducible rfl)
  refine aA ?_;refine aP 2 (I ((N:Int)+1)) 20 hS0 (fun w' hSw=>?_) ?_
  ·clear hSw
   first|(go_simp;done)|(go_simp;with_reducible rfl)
  refine aA ?_;refine lK 3 5 (fun K hK=>?_) (fun K hK=>?_)
  ·go_simp;have HI3:=ae (HID.out.below (ag V (.cells (Array.replicate (N+1) (I 0)) 3)));have HR3:=ae (Vr.out.below (ag V (.cells (Array.replicate (N+1) (I 0)) 3)));have EG:=ae (ai HLD.out (ag V (.cells (Array.replicate (N+1) (I 0)) 3)));have vT:=ae (heap_alloc_last V (.cells (Array.replicate (N+1) (I 0)) 3));have hS3:oL (V.alloc (.cells (Array.replicate (N+1) (I 0)) 3)) w.heap.size #[I ep, .slice A mm a,I lp, .slice R n r]:=HI3.out.kz;refine hK.out _ _ hS3 (fun _=>?_);clear hK K;refine aA ?_;generalize (V.alloc (.cells (Array.replicate (N+1) (I 0)) 3))=V3 at HI3 HR3 EG vT hS3 ⊢;obtain ⟨sb,hsb0⟩:∃b,V.heap.size=b:=⟨_,rfl⟩;rw [hsb0] at vT ⊢;have hsb:w.heap.size+2≤sb:=by omega
   clear hsb0;refine oD 4 ( .agg #[I ep, .slice A mm a,I lp, .slice R n r, .slice (some ⟨sb,0,none⟩) 1 (N+1)]) 22 rfl rfl hS3 (bP rfl 204 _ rfl _ (by kernel_rfl)) ?_;refine aA ?_;refine bD 5 (fun K hK=>?_);refine jg (o:=⟨some 6, .alloc 204,_,_,_,none⟩) rfl 204 rfl #[I 0, .slice none 0 0,I 0, .slice none 0 0, .slice none 0 0] (by kernel_rfl) ?_;have Qu:=ae (HI3.out.below (ag V3 (.cells #[I 0, .slice none 0 0,I 0, .slice none 0 0, .slice none 0 0] 204)));have rG:=ae (HR3.out.below (ag V3 (.cells #[I 0, .slice none 0 0,I 0, .slice none 0 0, .slice none 0 0] 204)));have YU:=ae (ai EG.out (ag V3 (.cells #[I 0, .slice none 0 0,I 0, .slice none 0 0, .slice none 0 0] 204)));have HV5:=ae (AV.new V3 #[I 0, .slice none 0 0,I 0, .slice none 0 0, .slice none 0 0] 204);have hS5:oL (V3.alloc (.cells #[I 0, .slice none 0 0,I 0, .slice none 0 0, .slice none 0 0] 204)) w.heap.size #[I ep, .slice A mm a,I lp, .slice R n r]:=Qu.out.kz;have HQ5:=ae ((Below.heap_alloc V3 (.cells #[I 0, .slice none 0 0,I 0, .slice none 0 0, .slice none 0 0] 204) sb (bK.1 vT.out).1).trans vT.out);have hvs:V3.heap.size≠sb:=by have:=(bK.1 vT.out).1;omega
   have hvb:w.heap.size+2≤V3.heap.size:=by have:=(bK.1 vT.out).1;omega
   refine hK.out _ _ hS5 (fun _=>?_);clear hK K;refine aA ?_;generalize V3.alloc (.cells #[I 0, .slice none 0 0,I 0, .slice none 0 0, .slice none 0 0] 204)=V5 at Qu rG YU HQ5 HV5 hS5 ⊢;generalize V3.heap.size=vb at HV5 hvs hvb ⊢;refine bD 6 (fun K hK=>?_);refine jh (o:=⟨none, .store 204 (.tmp 6) (.tmp 22),_,_,_,none⟩) rfl 204 _ _ rfl vb #[I ep, .slice A mm a,I lp, .slice R n r, .slice (some ⟨sb,0,none⟩) 1 (N+1)] rfl rfl 204 #[I 0, .slice none 0 0,I 0, .slice none 0 0, .slice none 0 0] HV5.out.var (by kernel_rfl) rfl (by kernel_rfl) ?_;have HF:=ae (rE.Zw YU.out Qu.out rG.out HV5.out HQ5.out hvs hvb hsb hN1 hN2);have QD:oL (V5.setRow vb #[I ep, .slice A mm a,I lp, .slice R n r, .slice (some ⟨sb,0,none⟩) 1 (N+1)]) w.heap.size #[I ep, .slice A mm a,I lp, .slice R n r]:=HF.out.it.kz;refine hK.out _ _ QD (fun _=>?_);clear hK K;try simp only [Act.put]
   refine wpAnyH_done (by kernel_rfl) ?_ _;go_wp2_with fail;go_meet;exact ⟨_,_,rfl,HF.out⟩
  ·refine jg (o:=⟨some 6, .alloc 204,_,_,_,none⟩) rfl 204 rfl #[I 0, .slice none 0 0,I 0, .slice none 0 0, .slice none 0 0] (by kernel_rfl) ?_;have Qu:=ae (HID.out.below (ag V (.cells #[I 0, .slice none 0 0,I 0, .slice none 0 0, .slice none 0 0] 204)));have rG:=ae (Vr.out.below (ag V (.cells #[I 0, .slice none 0 0,I 0, .slice none 0 0, .slice none 0 0] 204)));have YU:=ae (ai HLD.out (ag V (.cells #[I 0, .slice none 0 0,I 0, .slice none 0 0, .slice none 0 0] 204)));have HV5:=ae (AV.new V #[I 0, .slice none 0 0,I 0, .slice none 0 0, .slice none 0 0] 204);have hS5:oL (V.alloc (.cells #[I 0, .slice none 0 0,I 0, .slice none 0 0, .slice none 0 0] 204)) w.heap.size #[I ep, .slice A mm a,I lp, .slice R n r]:=Qu.out.kz;refine hK.out _ _ hS5 (fun _=>?_);clear hK K;refine aA ?_;generalize (V.alloc (.cells #[I 0, .slice none 0 0,I 0, .slice none 0 0, .slice none 0 0] 204))=V5 at Qu rG YU HV5 hS5 ⊢;obtain ⟨vb,hvb0⟩:∃b,V.heap.size=b:=⟨_,rfl⟩;rw [hvb0] at HV5 ⊢;have hvb:w.heap.size+2≤vb:=by omega
   clear hvb0;refine bD 3 (fun K hK=>?_);go_simp;have HI3:=ae (Qu.out.below (ag V5 (.cells (Array.replicate (N+1) (I 0)) 3)));have HR3:=ae (rG.out.below (ag V5 (.cells (Array.replicate (N+1) (I 0)) 3)));have EG:=ae (ai YU.out (ag V5 (.cells (Array.replicate (N+1) (I 0)) 3)));have vT:=ae (heap_alloc_last V5 (.cells (Array.replicate (N+1) (I 0)) 3));have hS3:oL (V5.alloc (.cells (Array.replicate (N+1) (I 0)) 3)) w.heap.size #[I ep, .slice A mm a,I lp, .slice R n r]:=HI3.out.kz;have ng:=ae (HV5.out.below (ag V5 (.cells (Array.replicate (N+1) (I 0)) 3)));have hvs:vb≠V5.heap.size:=by have:=HV5.out.lt;omega
   have hsb:w.heap.size+2≤V5.heap.size:=by have:=HV5.out.lt;omega
   refine hK.out _ _ hS3 (fun _=>?_);clear hK K;refine aA ?_;generalize V5.alloc (.cells (Array.replicate (N+1) (I 0)) 3)=V3 at HI3 HR3 EG vT ng hS3 ⊢;generalize V5.heap.size=sb at vT hvs hsb ⊢;refine oD 4 ( .agg #[I ep, .slice A mm a,I lp, .slice R n r, .slice (some ⟨sb,0,none⟩) 1 (N+1)]) 22 rfl rfl hS3 (bP rfl 204 _ rfl _ (by kernel_rfl)) ?_;refine aA ?_;refine bD 6 (fun K hK=>?_);refine jh (o:=⟨none, .store 204 (.tmp 6) (.tmp 22),_,_,_,none⟩) rfl 204 _ _ rfl vb #[I ep, .slice A mm a,I lp, .slice R n r, .slice (some ⟨sb,0,none⟩) 1 (N+1)] rfl rfl 204 #[I 0, .slice none 0 0,I 0, .slice none 0 0, .slice none 0 0] ng.out.var (by kernel_rfl) rfl (by kernel_rfl) ?_;have HF:=ae (rE.Zw EG.out HI3.out HR3.out ng.out vT.out hvs hvb hsb hN1 hN2);have QD:oL (V3.setRow vb #[I ep, .slice A mm a,I lp, .slice R n r, .slice (some ⟨sb,0,none⟩) 1 (N+1)]) w.heap.size #[I ep, .slice A mm a,I lp, .slice R n r]:=HF.out.it.kz;refine hK.out _ _ QD (fun _=>?_);clear hK K;try simp only [Act.put]
   refine wpAnyH_done (by kernel_rfl) ?_ _;go_wp2_with fail;go_meet;exact ⟨_,_,rfl,HF.out⟩
 case rest=>
  obtain ⟨vb,sb,rfl,ha⟩:=hcut;have HA:=ae ha;clear ha HI2 HR2 HL2 hmk hw1 hc h;go_wp2_with fail
  go_loopw [24] (fun i wr=>∃(k c:Nat) (S:Option Addr) (ss:List Int),k≤N∧i=I (k:Nat)∧ss.length=k+1∧ss[k]? =some (gZ cl k)∧rE w [I ep, .slice A mm a,I lp, .slice R n r] vb (k+1) c S ss wr) (fun i _=>N - (intOf i).toNat)
  case atStart=>exact ⟨0,N+1,_,[0],Nat.zero_le _,rfl,rfl,rfl,HA.out⟩
  case round=>
   clear HA;obtain ⟨k,c,S,ss,hkN,rfl,hsl,hsk,hw⟩:=hrel;have HX0:=ae hw;have HSL:=ae hsl;have YX:=ae hsk;clear hw hsl hsk;by_cases hlt:k<N
   ·have i1:(k:Int)<(N:Int):=by omega
    obtain ⟨g,rfl,hg,hgw,hkc,hgc⟩:=HX0.out.there;obtain ⟨s,hs⟩:∃s,gZ cl k=s:=⟨_,rfl⟩;obtain ⟨yk,hyk⟩:∃y,uw cl ((k:Int)+1)=y:=⟨_,rfl⟩;have HYK:=ae (JK.out ((k:Int)+1) (.slice (some ⟨g,0,none⟩) (k+1) c));have hyb:=Vw.out ((k:Int)+1);have hsb:=JW.out k hkN;rw [hs] at YX hsb;rw [hyk,e2] at HYK;rw [hyk] at hyb;have EI:Hid (gZ cl (k+1)=s+yk):=ae (by rw [←hs,←hyk];rfl);clear hs hyk hgc;have ww:IntKind.i64.wrap (s+yk)=s+yk:=by rw [IntKind.wrap_i64];omega
    have hwk:IntKind.i64.wrap ((k:Int)+1)=(k:Int)+1:=by rw [IntKind.wrap_i64];omega
    have j0:(0:Int)≤(k:Int):=by omega
    have j1:(k:Int)<(k:Int)+1:=by omega
    go_upto_block 1 with fail
    go_cut [7] (fun p wx=>p=I (k:Nat)∧∃c2 S2,rE w [I ep, .slice A mm a,I lp, .slice R n r] vb (k+1+1) c2 S2 (ss++ [s+yk]) wx)
    case first=>
     go_upto_region 8 with fail;have rH:=ae HX0.out.drew;refine wp_region_held_drew (S:=fun _=>True) (by kernel_rfl) trivial (fun _=>?_);generalize wr.drew=V0 at rH ⊢;clear HX0 hgw;refine aP 0 (.pointer (some ⟨vb,4,none⟩)) 27 trivial (fun w' hSw=>?_) ?_
     ·clear hSw
      first|(go_simp;done)|(go_simp;with_reducible rfl)
     refine aA ?_;refine aP 2 (.pointer (some ⟨vb,4,none⟩)) 29 trivial (fun w' hSw=>?_) ?_
     ·clear hSw
      first|(go_simp;done)|(go_simp;with_reducible rfl)
     refine aA ?_;refine aP 4 (I (k:Int)) 31 trivial (fun w' hSw=>?_) ?_
     ·clear hSw
      first|(go_simp;done)|(go_simp;with_reducible rfl)
     refine aA ?_;refine aP 8 (I (k:Int)) 35 trivial (fun w' hSw=>?_) ?_
     ·clear hSw
      first|(go_simp;done)|(go_simp;with_reducible rfl)
     refine aA ?_;refine aP 9 (I ((k:Int)+1)) 36 trivial (fun w' hSw=>?_) ?_
     ·clear hSw
      first|(go_simp;done)|(go_simp;with_reducible rfl)
     refine aA ?_;apply memo (C:=(fun W=>rE w [I ep, .slice A mm a,I lp, .slice R n r] vb (k+1) c (some ⟨g,0,none⟩) ss W));intro su;apply memo (C:=(fun W=>rE w [I ep, .slice A mm a,I lp, .slice R n r] vb (k+1) c (some ⟨g,0,none⟩) ss W));intro rZ;apply memo (C:=(fun W=>rE w [I ep, .slice A mm a,I lp, .slice R n r] vb (k+1) c (some ⟨g,0,none⟩) ss W));intro zX;apply memo (C:=(fun W=>rE w [I ep, .slice A mm a,I lp, .slice R n r] vb (k+1) c (some ⟨g,0,none⟩) ss W));intro Q8;apply memo (C:=(fun W=>rE w [I ep, .slice A mm a,I lp, .slice R n r] vb (k+1) c (some ⟨g,0,none⟩) ss W));intro xq;apply memo (C:=(fun W=>rE w [I ep, .slice A mm a,I lp, .slice R n r] vb (k+1) c (some ⟨g,0,none⟩) ss W));intro Kv;apply memo (C:=(fun W=>rE w [I ep, .slice A mm a,I lp, .slice R n r] vb (k+1) c (some ⟨g,0,none⟩) ss W));intro M1_3;apply memo (C:=(fun W=>rE w [I ep, .slice A mm a,I lp, .slice R n r] vb (k+1) c (some ⟨g,0,none⟩) ss W));intro Nr;apply memo (C:=(fun W=>rE w [I ep, .slice A mm a,I lp, .slice R n r] vb (k+1) c (some ⟨g,0,none⟩) ss W));intro M1_7;apply memo (C:=(fun W=>rE w [I ep, .slice A mm a,I lp, .slice R n r] vb (k+1) c (some ⟨g,0,none⟩) ss W));intro M1;apply memo (C:=(fun W=>rE w [I ep, .slice A mm a,I lp, .slice R n r] vb (k+1) c (some ⟨g,0,none⟩) ss W));intro EM;apply memo (C:=(fun W=>rE w [I ep, .slice A mm a,I lp, .slice R n r] vb (k+1) c (some ⟨g,0,none⟩) ss W));intro DV;apply memo (C:=(fun W=>rE w [I ep, .slice A mm a,I lp, .slice R n r] vb (k+1) c (some ⟨g,0,none⟩) ss W));intro Q9;apply memo (C:=(fun W=>rE w [I ep, .slice A mm a,I lp, .slice R n r] vb (k+1) c (some ⟨g,0,none⟩) ss W));intro M3_6;apply memo (C:=(fun W=>rE w [I ep, .slice A mm a,I lp, .slice R n r] vb (k+1) c (some ⟨g,0,none⟩) ss W));intro Ns;apply memo (C:=(fun W=>rE w [I ep, .slice A mm a,I lp, .slice R n r] vb (k+1) c (some ⟨g,0,none⟩) ss W));intro M3_7;apply memo (C:=(fun W=>rE w [I ep, .slice A mm a,I lp, .slice R n r] vb (k+1) c (some ⟨g,0,none⟩) ss W));intro M3;apply memo (C:=(fun W=>rE w [I ep, .slice A mm a,I lp, .slice R n r] vb (k+1) c (some ⟨g,0,none⟩) ss W));intro M7_10;apply memo (C:=(fun W=>rE w [I ep, .slice A mm a,I lp, .slice R n r] vb (k+1) c (some ⟨g,0,none⟩) ss W));intro M7;refine wpAnyH_ready (rs:= [1,3,7]) (by kernel_rfl) (by simp) ?_;refine AllReadyH.cons rfl (fun K hK=>?_) (AllReadyH.cons rfl (fun K hK=>?_) (AllReadyH.cons rfl (fun K hK=>?_) AllReadyH.nil))
     ·have c4:=rH.out.var.cell 4;go_simp;clear c4;refine hK.out _ _ trivial (fun _=>?_);clear hK K;refine aA ?_;exact M1 _ rH.out
     ·have c4:=rH.out.var.cell 4;go_simp;clear c4;refine hK.out _ _ trivial (fun _=>?_);clear hK K;refine aA ?_;refine aP 5 (.pointer (some ⟨g,k,none⟩)) 32 trivial (fun w' hSw=>?_) ?_
      ·clear hSw
       first|(go_simp;done)|(go_simp;with_reducible rfl)
      refine aA ?_;exact M3 _ rH.out
     ·refine gV (o:=⟨some 34, .load 204 (.tmp 6),_,_,_,none⟩) rfl 204 _ rfl vb 0 rfl [I ep, .slice A mm a,I lp, .slice R n r,(.slice (some ⟨g,0,none⟩) (k+1) c)] _ (fun j v hv=>by rw [Nat.zero_add,rH.out.var.cell j];simpa using hv) Tryz.underlying204 rfl (by kernel_rfl) ?_;refine hK.out _ _ trivial (fun _=>?_);clear hK K;refine aA ?_;exact M7 _ rH.out
     ·intro V hV;have iL:=ae hV;clear hV;refine wpAnyH_ready (rs:= [1,3,10]) (by kernel_rfl) (by simp) ?_;refine AllReadyH.cons rfl (fun K hK=>?_) (AllReadyH.cons rfl (fun K hK=>?_) (AllReadyH.cons rfl (fun K hK=>?_) AllReadyH.nil))
      ·have c4:=iL.out.var.cell 4;go_simp;clear c4;refine hK.out _ _ trivial (fun _=>?_);clear hK K;refine aA ?_;exact M1_7 _ iL.out
      ·have c4:=iL.out.var.cell 4;go_simp;clear c4;refine hK.out _ _ trivial (fun _=>?_);clear hK K;refine aA ?_;refine aP 5 (.pointer (some ⟨g,k,none⟩)) 32 trivial (fun w' hSw=>?_) ?_
       ·clear hSw
        first|(go_simp;done)|(go_simp;with_reducible rfl)
       refine aA ?_;exact M3_7 _ iL.out
      ·go_simp;refine (HYK.out V iL.out.lo).mono ?_;rintro e W6 ⟨rfl,hb6⟩;have oK:=ae (iL.out.grow hb6);clear hb6;refine hK.out _ _ trivial (fun _=>?_);clear hK K;refine aA ?_;exact M7_10 _ oK.out
     ·intro V hV;have iL:=ae hV;clear hV;refine lK 1 3 (fun K hK=>?_) (fun K hK=>?_)
      ·have c4:=iL.out.var.cell 4;go_simp;clear c4;refine hK.out _ _ trivial (fun _=>?_);clear hK K;refine aA ?_;exact Nr _ iL.out
      ·have c4:=iL.out.var.cell 4;go_simp;clear c4;refine hK.out _ _ trivial (fun _=>?_);clear hK K;refine aA ?_;refine aP 5 (.pointer (some ⟨g,k,none⟩)) 32 trivial (fun w' hSw=>?_) ?_
       ·clear hSw
        first|(go_simp;done)|(go_simp;with_reducible rfl)
       refine aA ?_;exact Ns _ iL.out
     ·intro V hV;have iL:=ae hV;clear hV;refine wpAnyH_ready (rs:= [1,6,7]) (by kernel_rfl) (by simp) ?_;refine AllReadyH.cons rfl (fun K hK=>?_) (AllReadyH.cons rfl (fun K hK=>?_) (AllReadyH.cons rfl (fun K hK=>?_) AllReadyH.nil))
      ·have c4:=iL.out.var.cell 4;go_simp;clear c4;refine hK.out _ _ trivial (fun _=>?_);clear hK K;refine aA ?_;exact M1_3 _ iL.out
      ·obtain ⟨_,e,_,_,_,hgc⟩:=iL.out.there;injection e with e;injection e with e;subst e;have cs:=hgc k s YX.out;clear hgc;go_simp;clear cs;refine hK.out _ _ trivial (fun _=>?_);clear hK K;refine aA ?_;exact M3_6 _ iL.out
      ·refine gV (o:=⟨some 34, .load 204 (.tmp 6),_,_,_,none⟩) rfl 204 _ rfl vb 0 rfl [I ep, .slice A mm a,I lp, .slice R n r,(.slice (some ⟨g,0,none⟩) (k+1) c)] _ (fun j v hv=>by rw [Nat.zero_add,iL.out.var.cell j];simpa using hv) Tryz.underlying204 rfl (by kernel_rfl) ?_;refine hK.out _ _ trivial (fun _=>?_);clear hK K;refine aA ?_;exact M3_7 _ iL.out
     ·intro V hV;have iL:=ae hV;clear hV;refine wpAnyH_ready (rs:= [1,6,10]) (by kernel_rfl) (by simp) ?_;refine AllReadyH.cons rfl (fun K hK=>?_) (AllReadyH.cons rfl (fun K hK=>?_) (AllReadyH.cons rfl (fun K hK=>?_) AllReadyH.nil))
      ·have c4:=iL.out.var.cell 4;go_simp;clear c4;refine hK.out _ _ trivial (fun _=>?_);clear hK K;refine aA ?_;exact Kv _ iL.out
      ·obtain ⟨_,e,_,_,_,hgc⟩:=iL.out.there;injection e with e;injection e with e;subst e;have cs:=hgc k s YX.out;clear hgc;go_simp;clear cs;refine hK.out _ _ trivial (fun _=>?_);clear hK K;refine aA ?_;exact Q9 _ iL.out
      ·go_simp;refine (HYK.out V iL.out.lo).mono ?_;rintro e W14 ⟨rfl,hb14⟩;have HX14:=ae (iL.out.grow hb14);clear hb14;refine hK.out _ _ trivial (fun _=>?_);clear hK K;refine aA ?_;exact Ns _ HX14.out
     ·intro V hV;have iL:=ae hV;clear hV;refine lK 1 6 (fun K hK=>?_) (fun K hK=>?_)
      ·have c4:=iL.out.var.cell 4;go_simp;clear c4;refine hK.out _ _ trivial (fun _=>?_);clear hK K;refine aA ?_;exact xq _ iL.out
      ·obtain ⟨_,e,_,_,_,hgc⟩:=iL.out.there;injection e with e;injection e with e;subst e;have cs:=hgc k s YX.out;clear hgc;go_simp;clear cs;refine hK.out _ _ trivial (fun _=>?_);clear hK K;refine aA ?_;refine aP 11 (I (s+yk)) 38 trivial (fun w' hSw=>?_) ?_
       ·clear hSw
        first|(go_simp;done)|(go_simp;with_reducible rfl)
       refine aA ?_;exact DV _ iL.out
     ·intro V hV;have iL:=ae hV;clear hV;refine lK 1 7 (fun K hK=>?_) (fun K hK=>?_)
      ·have c4:=iL.out.var.cell 4;go_simp;clear c4;refine hK.out _ _ trivial (fun _=>?_);clear hK K;refine aA ?_;exact Q8 _ iL.out
      ·refine gV (o:=⟨some 34, .load 204 (.tmp 6),_,_,_,none⟩) rfl 204 _ rfl vb 0 rfl [I ep, .slice A mm a,I lp, .slice R n r,(.slice (some ⟨g,0,none⟩) (k+1) c)] _ (fun j v hv=>by rw [Nat.zero_add,iL.out.var.cell j];simpa using hv) Tryz.underlying204 rfl (by kernel_rfl) ?_;refine hK.out _ _ trivial (fun _=>?_);clear hK K;refine aA ?_;exact Q9 _ iL.out
     ·intro V hV;have iL:=ae hV;clear hV;refine lK 1 10 (fun K hK=>?_) (fun K hK=>?_)
      ·have c4:=iL.out.var.cell 4;go_simp;clear c4;refine hK.out _ _ trivial (fun _=>?_);clear hK K;refine aA ?_;exact zX _ iL.out
      ·go_simp;refine (HYK.out V iL.out.lo).mono ?_;rintro e W20 ⟨rfl,hb20⟩;have HX20:=ae (iL.out.grow hb20);clear hb20;refine hK.out _ _ trivial (fun _=>?_);clear hK K;refine aA ?_;refine aP 11 (I (s+yk)) 38 trivial (fun w' hSw=>?_) ?_
       ·clear hSw
        first|(go_simp;done)|(go_simp;with_reducible rfl)
       refine aA ?_;exact DV _ HX20.out
     ·intro V hV;have iL:=ae hV;clear hV;refine lK 1 12 (fun K hK=>?_) (fun K hK=>?_)
      ·have c4:=iL.out.var.cell 4;go_simp;clear c4;refine hK.out _ _ trivial (fun _=>?_);clear hK K;refine aA ?_;exact rZ _ iL.out
      ·go_simp;refine hK.out _ _ trivial (fun _=>?_);clear hK K;refine aA ?_;exact EM V iL.out
     ·intro V1 hV;have Kr:=ae hV;have iL:=ae (hV.grow (ag V1 (.cells #[I (s+yk)] 3)));clear hV;refine bD 1 (fun K hK=>?_);have c4:=iL.out.var.cell 4;go_simp;clear c4;refine hK.out _ _ trivial (fun _=>?_);clear hK K;refine aA ?_;exact su V1 Kr.out
     ·intro V hV;have iL:=ae hV;clear hV;refine lK 3 7 (fun K hK=>?_) (fun K hK=>?_)
      ·have c4:=iL.out.var.cell 4;go_simp;clear c4;refine hK.out _ _ trivial (fun _=>?_);clear hK K;refine aA ?_;refine aP 5 (.pointer (some ⟨g,k,none⟩)) 32 trivial (fun w' hSw=>?_) ?_
       ·clear hSw
        first|(go_simp;done)|(go_simp;with_reducible rfl)
       refine aA ?_;exact M1_3 _ iL.out
      ·refine gV (o:=⟨some 34, .load 204 (.tmp 6),_,_,_,none⟩) rfl 204 _ rfl vb 0 rfl [I ep, .slice A mm a,I lp, .slice R n r,(.slice (some ⟨g,0,none⟩) (k+1) c)] _ (fun j v hv=>by rw [Nat.zero_add,iL.out.var.cell j];simpa using hv) Tryz.underlying204 rfl (by kernel_rfl) ?_;refine hK.out _ _ trivial (fun _=>?_);clear hK K;refine aA ?_;exact M1_7 _ iL.out
     ·intro V hV;have iL:=ae hV;clear hV;refine lK 3 10 (fun K hK=>?_) (fun K hK=>?_)
      ·have c4:=iL.out.var.cell 4;go_simp;clear c4;refine hK.out _ _ trivial (fun _=>?_);clear hK K;refine aA ?_;refine aP 5 (.pointer (some ⟨g,k,none⟩)) 32 trivial (fun w' hSw=>?_) ?_
       ·clear hSw
        first|(go_simp;done)|(go_simp;with_reducible rfl)
       refine aA ?_;exact Kv _ iL.out
      ·go_simp;refine (HYK.out V iL.out.lo).mono ?_;rintro e W27 ⟨rfl,hb27⟩;have HX27:=ae (iL.out.grow hb27);clear hb27;refine hK.out _ _ trivial (fun _=>?_);clear hK K;refine aA ?_;exact Nr _ HX27.out
     ·intro V hV;have iL:=ae hV;clear hV;refine bD 3 (fun K hK=>?_);have c4:=iL.out.var.cell 4;go_simp;clear c4;refine hK.out _ _ trivial (fun _=>?_);clear hK K;refine aA ?_;refine aP 5 (.pointer (some ⟨g,k,none⟩)) 32 trivial (fun w' hSw=>?_) ?_
      ·clear hSw
       first|(go_simp;done)|(go_simp;with_reducible rfl)
      refine aA ?_;exact xq _ iL.out
     ·intro V hV;have iL:=ae hV;clear hV;refine lK 6 7 (fun K hK=>?_) (fun K hK=>?_)
      ·obtain ⟨_,e,_,_,_,hgc⟩:=iL.out.there;injection e with e;injection e with e;subst e;have cs:=hgc k s YX.out;clear hgc;go_simp;clear cs;refine hK.out _ _ trivial (fun _=>?_);clear hK K;refine aA ?_;exact Q8 _ iL.out
      ·refine gV (o:=⟨some 34, .load 204 (.tmp 6),_,_,_,none⟩) rfl 204 _ rfl vb 0 rfl [I ep, .slice A mm a,I lp, .slice R n r,(.slice (some ⟨g,0,none⟩) (k+1) c)] _ (fun j v hv=>by rw [Nat.zero_add,iL.out.var.cell j];simpa using hv) Tryz.underlying204 rfl (by kernel_rfl) ?_;refine hK.out _ _ trivial (fun _=>?_);clear hK K;refine aA ?_;exact Kv _ iL.out
     ·intro V hV;have iL:=ae hV;clear hV;refine lK 6 10 (fun K hK=>?_) (fun K hK=>?_)
      ·obtain ⟨_,e,_,_,_,hgc⟩:=iL.out.there;injection e with e;injection e with e;subst e;have cs:=hgc k s YX.out;clear hgc;go_simp;clear cs;refine hK.out _ _ trivial (fun _=>?_);clear hK K;refine aA ?_;exact zX _ iL.out
      ·go_simp;refine (HYK.out V iL.out.lo).mono ?_;rintro e W32 ⟨rfl,hb32⟩;have HX32:=ae (iL.out.grow hb32);clear hb32;refine hK.out _ _ trivial (fun _=>?_);clear hK K;refine aA ?_;exact xq _ HX32.out
     ·intro V hV;have iL:=ae hV;clear hV;refine bD 6 (fun K hK=>?_);obtain ⟨_,e,_,_,_,hgc⟩:=iL.out.there;injection e with e;injection e with e;subst e;have cs:=hgc k s YX.out;clear hgc;go_simp;clear cs;refine hK.out _ _ trivial (fun _=>?_);clear hK K;refine aA ?_;refine aP 11 (I (s+yk)) 38 trivial (fun w' hSw=>?_) ?_
      ·clear hSw
       first|(go_simp;done)|(go_simp;with_reducible rfl)
      refine aA ?_;exact rZ _ iL.out
     ·intro V hV;have iL:=ae hV;clear hV;refine bD 7 (fun K hK=>?_);refine gV (o:=⟨some 34, .load 204 (.tmp 6),_,_,_,none⟩) rfl 204 _ rfl vb 0 rfl [I ep, .slice A mm a,I lp, .slice R n r,(.slice (some ⟨g,0,none⟩) (k+1) c)] _ (fun j v hv=>by rw [Nat.zero_add,iL.out.var.cell j];simpa using hv) Tryz.underlying204 rfl (by kernel_rfl) ?_;refine hK.out _ _ trivial (fun _=>?_);clear hK K;refine aA ?_;exact zX _ iL.out
     ·intro V hV;have iL:=ae hV;clear hV;refine bD 10 (fun K hK=>?_);go_simp;refine (HYK.out V iL.out.lo).mono ?_;rintro e W35 ⟨rfl,hb35⟩;have HX35:=ae (iL.out.grow hb35);clear hb35;refine hK.out _ _ trivial (fun _=>?_);clear hK K;refine aA ?_;refine aP 11 (I (s+yk)) 38 trivial (fun w' hSw=>?_) ?_
      ·clear hSw
       first|(go_simp;done)|(go_simp;with_reducible rfl)
      refine aA ?_;exact rZ _ HX35.out
     ·intro V hV;have iL:=ae hV;clear hV;refine bD 12 (fun K hK=>?_);go_simp;refine hK.out _ _ trivial (fun _=>?_);clear hK K;refine aA ?_;exact su V iL.out
     ·intro V1 hV;have Kr:=ae hV;have iL:=ae (hV.grow (ag V1 (.cells #[I (s+yk)] 3)));clear hV;refine bD 13 (fun K hK=>?_);have uH:=Kr.out.var.lt;have hvge:=Kr.out.ge;refine step_append_lies _ (by rfl) _ _ _ (by rfl) (w.heap.size+2) 3 i0 (.int .i64 0) 1 8 Tryz.underlying47 HI.out mP.out iM.out iH.out rfl (by omega) (.slice (some ⟨g,0,none⟩) (k+1) c) (k+1) (ss.map I) (by rfl) iL.out.own ⟨V1.heap.size,0,none⟩ 1 1 [I (s+yk)] (by rfl) rfl (bW V1 _ _ _ rfl) (fun y hy=>by rw [List.mem_singleton.1 hy];rfl) (by omega) (by unfold maxLen;omega) (by omega) (by simp;omega) _ rfl ?_;intro gg cap w6 hown6 hgrow6 eP _;have jl:=ae (Kr.out.add rfl rfl hown6 hgrow6 eP);have pV:Hid (AV vb 204 #[I ep, .slice A mm a,I lp, .slice R n r,(.slice (some ⟨g,0,none⟩) (k+1) c)] w6):=ae ⟨(hgrow6.block _ (by simp;omega) Kr.out.ne).trans ((Below.heap_alloc _ _ _ uH).trans Kr.out.var.var)⟩;clear hown6 hgrow6 eP;refine hK.out _ _ trivial (fun _=>?_);clear hK K;try simp only [Act.put,List.setIfInBounds_toArray]
      refine aP 14 (.pointer (some ⟨vb,4,none⟩)) 41 trivial (fun w' hSw=>?_) ?_
      ·clear hSw
       first|(go_simp;done)|(go_simp;with_reducible rfl)
      try simp only [Act.put]
      refine bD 15 (fun K hK=>?_);have c4:=pV.out.cell 4;have f4:=pV.out.eY 4;go_simp;refine hK.out _ _ trivial (fun _=>?_);clear hK K;refine wpAnyH_done (by kernel_rfl) ?_ _;go_wp2_with fail;go_meet;exact ⟨rfl,_,_,jl.out⟩
    case rest=>
     obtain ⟨rfl,c2,S2,hw2⟩:=hcut;have ug:=ae hw2;clear hw2 HX0;go_wp2_with fail;go_roundw
     case rel=>exact ⟨k+1,c2,S2,_,by omega,by go_num,by rw [bH,HSL.out];rfl,by rw [List.getElem?_append_right (by rw [HSL.out];omega),HSL.out,Nat.sub_self,EI.out];rfl,ug.out⟩
     case measure=>simp [intOf];omega
   ·have i1:¬(k:Int)<(N:Int):=by omega
    have hkN2:k=N:=by omega
    have nH:=ae hkN2;have rv:=HX0.out.r;have vU:=ae rv;clear rv hkN2;go_wp2_with (first
     |((with_reducible refine fU 204 ?_);go_must (refine bu rfl _ _ rfl vb rfl #[I ep, .slice A mm a,I lp, .slice R n r, .slice S (k+1) c] HX0.out.var.kz _ Tryz.underlying204 rfl (by kernel_rfl) ?_))
     |((with_reducible refine dF 204 ?_);go_must (refine wpList_store_row rfl _ _ _ rfl (w.heap.size+1) #[I ep, .slice A mm a,I lp, .slice R n r, .slice S (k+1) c] rfl rfl 204 #[I 0, .slice none 0 0,I 0, .slice none 0 0, .slice none 0 0] vU.out.var (by kernel_rfl) rfl (by simp [Value.oneCell']) ?_)))
    refine bodyPost_ret (v:= .tuple #[.agg #[I ep, .slice A mm a,I lp, .slice R n r, .slice S (k+1) c], .bool true]) (aZ rfl _ _ (w.heap.size+1) _ #[I ep, .slice A mm a,I lp, .slice R n r, .slice S (k+1) c] (0,0) _ rfl (setRow_heap _ _ _ _ _ _ vU.out.var) Tryz.underlying204 rfl (by kernel_rfl) _ rfl) rfl ?_;obtain ⟨g,rfl,hg,hgw,hkc,hgc⟩:=HX0.out.there;refine ⟨some ⟨g,0,none⟩,k+1,c,ss,by rw [e2],?_,HSL.out,?_, .inr ⟨g,0,rfl,by rw [setRow_size];exact hgw,fun j hj=>?_⟩,hkc,aB HX0.out.lo (by omega) _⟩
    ·rw [DI.out,nH.out]
    ·rw [Nat.add_sub_cancel,YX.out,nH.out,HST.out]
    ·rw [Nat.zero_add];have hb:(wr.setRow (w.heap.size+1) #[I ep, .slice A mm a,I lp, .slice R n r, .slice (some ⟨g,0,none⟩) (k+1) c]).heap[g]? =wr.heap[g]? :=setRow_other _ _ g _ (by omega);have h7:(wr.setRow (w.heap.size+1) #[I ep, .slice A mm a,I lp, .slice R n r, .slice (some ⟨g,0,none⟩) (k+1) c]).cell? ⟨g,j,none⟩=wr.cell? ⟨g,j,none⟩:=by
      simp only [World.cell?,hb]
     rw [h7];exact hgc j _ (by rw [bZ hj];rfl)
theorem cycleG (c:Cal) (A R S:Option Addr) (a r k0 cp:Nat) (ss:List Int) (w:World) (hc:eH c) (hk:k0=Il c+1) (hl:ss.length=k0) (hs:ss[k0 - 1]? =some (GH c)) (hI:jU w w.heap.size S ss) (hkc:k0≤cp):Calls Tryz.prog 107 #[.agg (jK c A a R r (.slice S k0 cp))] w (Gives (.tuple #[I (Il c:Int),I (GH c)]) w):=by
 have hcb:=EX hc;obtain ⟨k,hky⟩:∃k,Il c=k:=⟨_,rfl⟩;rw [hky] at hk hcb;subst hk;rw [Nat.add_sub_cancel] at hs;have hkl:k<ss.length:=by omega
 obtain ⟨dd,hdd⟩:∃d,GH c=d:=⟨_,rfl⟩;rw [hky,hdd];rw [hdd] at hs;rcases hI with h0|⟨b,off,rfl,hb,hcl⟩
 ·omega
 have f:w.cell? ⟨b,off+k,none⟩=some (I dd):=by rw [hcl k hkl,hs];rfl
 have hne:¬b=w.heap.size:=by omega
 have hk0:(0:Int)≤(k:Int):=by omega
 have hkb:(k:Int)≤400:=by omega
 have hk1:(k:Int)<(k:Int)+1:=by omega
 obtain ⟨n,hn⟩:∃n,c.rules.length=n:=⟨_,rfl⟩;obtain ⟨mm,hmm⟩:∃n,c.aj.length=n:=⟨_,rfl⟩;obtain ⟨ep,lL⟩:∃n,c.aJ=n:=⟨_,rfl⟩;obtain ⟨lp,hlp⟩:∃n,c.aY=n:=⟨_,rfl⟩;have e0:jK c A a R r (.slice (some ⟨b,off,none⟩) (k+1) cp)= #[I ep, .slice A mm a,I lp, .slice R n r, .slice (some ⟨b,off,none⟩) (k+1) cp]:=by rw [←hn,←hmm,←lL,←hlp];rfl
 rw [e0];have HV:=ae (jw.start w #[I ep, .slice A mm a,I lp, .slice R n r, .slice (some ⟨b,off,none⟩) (k+1) cp] 204);clear hc hcl hs hl e0 hn hmm lL hlp hdd hky hcb;go_enter Tryz.func107,Tryz.ntmps107;go_wp2_with fail;generalize w.alloc (.cells #[I ep, .slice A mm a,I lp, .slice R n r, .slice (some ⟨b,off,none⟩) (k+1) cp] 204)=W0 at HV ⊢;have g0:W0.cell? ⟨b,off+k,none⟩=some (I dd):=(HV.out.up.cell (p:=⟨b,off+k,none⟩) hb).trans f;have v1:W0.cell? ⟨w.heap.size,4,none⟩=some (.slice (some ⟨b,off,none⟩) (k+1) cp):=HV.out.row.2 4;clear f;go_wp2_with fail;go_quiet (fail);go_wp2_with fail;go_ret2;exact ⟨rfl,ai HV.out.up (below_drewN' _ _)⟩
theorem O8 (c:Cal) (A R:Option Addr) (a r:Nat) (w:World) (hc:eH c) (h:nD w w.heap.size A R c):Calls Tryz.prog 90 #[.agg (aH c A a R r)] w (Gives (.tuple #[I (Il c:Int),I (GH c),I 0]) w):=by
 have HOP:=ae (fun (W:World) (hb:Below w.heap.size w W)=>KG c A R a r W hc (h.grow hb));have uU:=ae (fun (S:Option Addr) (k cp:Nat) (ss:List Int) (W:World)=>cycleG c A R S a r k cp ss W hc);unfold OpnG at HOP;obtain ⟨yy,hyy⟩:∃y,Il c=y:=⟨_,rfl⟩;obtain ⟨dd,hdd⟩:∃d,GH c=d:=⟨_,rfl⟩;rw [hyy,hdd] at HOP uU ⊢;obtain ⟨n,hn⟩:∃n,c.rules.length=n:=⟨_,rfl⟩;obtain ⟨mm,hmm⟩:∃n,c.aj.length=n:=⟨_,rfl⟩;obtain ⟨ep,lL⟩:∃n,c.aJ=n:=⟨_,rfl⟩;obtain ⟨lp,hlp⟩:∃n,c.aY=n:=⟨_,rfl⟩;have e1:aH c A a R r= #[I ep, .slice A mm a,I lp, .slice R n r]:=by rw [←hn,←hmm,←lL,←hlp];rfl
 have e2:∀S,jK c A a R r S= #[I ep, .slice A mm a,I lp, .slice R n r,S]:=fun S=>by rw [←hn,←hmm,←lL,←hlp];rfl
 simp only [e1,e2] at HOP uU ⊢;have HV:=ae (jw.start w #[I ep, .slice A mm a,I lp, .slice R n r] 50);clear hc h hn hmm lL hlp e1 e2 hyy hdd;go_enter Tryz.func90,Tryz.ntmps90;go_wp2_with fail;refine (HOP.out _ HV.out.up).mono ?_;rintro e w1 ⟨S,k,cp,ss,rfl,hk,hl,hs,hI,hkc,hb1⟩;have kS:=ae (HV.out.grow hb1);have HK:=ae hk;have HL:=ae hl;have HS:=ae hs;have HII:=ae hI;have HKC:=ae hkc;clear hb1 HV hk hl hs hI hkc;have hone:(#[I ep, .slice A mm a,I lp, .slice R n r, .slice S k cp]:Array Value).all (·.oneCell')=true:=by simp [Value.oneCell']
 go_wp2_with (first
  |((with_reducible refine bf 204 ?_);refine aI rfl 204 rfl #[I 0, .slice none 0 0,I 0, .slice none 0 0, .slice none 0 0] (by kernel_rfl) ?_)
  |((with_reducible refine dF 204 ?_);go_must (refine wpList_store_row rfl _ _ _ rfl w1.heap.size #[I ep, .slice A mm a,I lp, .slice R n r, .slice S k cp] rfl rfl 204 #[I 0, .slice none 0 0,I 0, .slice none 0 0, .slice none 0 0] (heap_alloc_last w1 _) (by kernel_rfl) rfl hone ?_))
  |((with_reducible refine fU 204 ?_);go_must (refine bu rfl _ _ rfl w1.heap.size rfl #[I ep, .slice A mm a,I lp, .slice R n r, .slice S k cp] (AV.oO (AV.new w1 #[I 0, .slice none 0 0,I 0, .slice none 0 0, .slice none 0 0] 204) #[I ep, .slice A mm a,I lp, .slice R n r, .slice S k cp]).kz _ Tryz.underlying204 rfl (by kernel_rfl) ?_)))
 have hb2:Below w1.heap.size w1 ((w1.alloc (.cells #[I 0, .slice none 0 0,I 0, .slice none 0 0, .slice none 0 0] 204)).setRow w1.heap.size #[I ep, .slice A mm a,I lp, .slice R n r, .slice S k cp]):=aB (ag w1 _) (Nat.le_refl _) _;generalize (w1.alloc (.cells #[I 0, .slice none 0 0,I 0, .slice none 0 0, .slice none 0 0] 204)).setRow w1.heap.size #[I ep, .slice A mm a,I lp, .slice R n r, .slice S k cp]=W2 at hb2 ⊢;have jk:=ae (kS.out.grow hb2);have HI2:=ae ((HII.out.keep hb2).more hb2.size);clear hb2;refine (uU.out S k cp ss W2 HK.out HL.out HS.out HI2.out HKC.out).mono ?_;rintro e w3 ⟨rfl,hb3⟩;have ng:=ae (jk.out.grow hb3);clear hb3;go_wp2_with fail
 go_ret3
 exact ⟨rfl,ng.out.up⟩
def O9 (wd wk first m:Int):Int×Bool:=
 if wk=5 then (first+m - 1 - (first+m - 1 - wd)%7,decide (first≤first+m - 1 - (first+m - 1 - wd)%7))
 else (first+(wd - first)%7+7*(wk - 1),decide (first+(wd - first)%7+7*(wk - 1)<first+m))
end Go.Proofs.YtbaehbbonkljpaaGreat
