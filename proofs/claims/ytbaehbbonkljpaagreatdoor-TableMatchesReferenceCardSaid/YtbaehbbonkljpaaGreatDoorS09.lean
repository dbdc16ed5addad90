/- The texts Je, Jf, Ng1, in this order. -/
import Derived.Test.YtbaehbbonkljpaaGreatDoorS00
import Derived.Test.YtbaehbbonkljpaaGreatDoorS07
import Derived.Test.YtbaehbbonkljpaaGreatDoorS08
set_option maxRecDepth 10000
set_option maxHeartbeats 8000000
namespace Go.Proofs.YtbaehbbonkljpaaGreatDoor
open Go Go.RowKit
def iE (c:Cal):Nat->Int
 |0=>0
 |k+1=>iE c k+uY c ((k:Int)+1)
theorem wR (c:Cal) (k:Nat) (hc:fJ c):(k:Int)<=iE c k/\iE c k<=656*(k:Int):=by
 induction k with
 |zero=>exact ⟨by show (0:Int)<=0;omega,by show (0:Int)<=656*0;omega⟩
 |succ k ih=>
  have h1:=l7 c ((k:Int)+1) hc;show _<=iE c k+uY c ((k:Int)+1)/\iE c k+uY c ((k:Int)+1)<=_;omega
def I8 (c:Cal):Nat:=(jU c.rules 1).getD 0
def Ic (c:Cal):Int:=iE c (I8 c)
theorem Gi {c:Cal} (hc:fJ c):jU c.rules 1=some (I8 c)/\1<=I8 c/\I8 c<=400:=by
 have h:=hc.per;unfold I8;cases hp:jU c.rules 1 with
 |none=>rw [hp] at h;cases h
 |some N=>exact ⟨rfl,OQ c.rules 1 N (by omega) (by omega) hp⟩
theorem Md {c:Cal} (hc:fJ c):1<=Ic c/\Ic c<=262400:=by
 have h1:=Gi hc;have h2:=wR c (I8 c) hc;unfold Ic;omega
theorem sO.makeG {w W:World} {ep lp:Int} {A R:Option Addr} {a n r N mm vb sb:Nat} (hL:Below w.heap.size w W) (hI:AV w.heap.size 65 #[I ep, .slice A mm a,I lp, .slice R n r] W) (hR:AV (w.heap.size+1) (220) #[I 0, .slice none 0 0,I 0, .slice none 0 0, .slice none 0 0] W) (hV:AV vb (220) #[I 0, .slice none 0 0,I 0, .slice none 0 0, .slice none 0 0] W)
  (hQ:W.heap[sb]? =some (.cells (Array.replicate (N+1) (I 0)) 3 (0,0))) (hvs:vb≠sb) (hvb:w.heap.size+2<=vb) (hsb:w.heap.size+2<=sb) (hN:1<=N) (Wl:N<=400):
  sO w [I ep, .slice A mm a,I lp, .slice R n r] vb 1 (N+1) (some ⟨sb,0,none⟩) [0] (W.setRow vb #[I ep, .slice A mm a,I lp, .slice R n r, .slice (some ⟨sb,0,none⟩) 1 (N+1)]):=by
 refine ⟨aB hL (by omega) _,hI.rW (by omega) _,hR.rW (by omega) _,hvb,hV.qy _,⟨rfl, .inr ⟨sb,N+1,Array.replicate (N+1) (I 0),rfl,hsb,(setRow_other _ _ sb _ (Ne.symm hvs)).trans hQ,by omega,?_,by simp,?_⟩⟩,?_⟩
 ·unfold maxLen;omega
 ·rw [Array.toList_replicate,List.replicate_succ];rfl
 ·intro e;have:vb=sb:=by simpa [Value.ownBlock] using e
  exact hvs this
def OpnG (w:World) (cl:Cal) (A:Option Addr) (a:Nat) (R:Option Addr) (r:Nat) (e:Ending) (w':World):Prop:=
 ∃(S:Option Addr) (k cp:Nat) (ss:List Int),e= .returned (.tuple #[.agg (jR cl A a R r (.slice S k cp)), .bool true])/\k=I8 cl+1/\ss.length=k/\ss[k - 1]? =some (Ic cl)/\ku w' w'.heap.size S ss/\k<=cp/\Below w.heap.size w w'
theorem LY (cl:Cal) (A R:Option Addr) (a r:Nat) (w:World) (hc:fJ cl) (h:qj w w.heap.size A R cl):Calls Tryz.prog 124 #[.agg (aI cl A a R r)] w (OpnG w cl A a R r):=by
 have jQ:=ae (fun (W:World) (hb:Below w.heap.size w W)=>oH cl A R a r W (h.grow hb));obtain ⟨n,hn⟩:∃n,cl.rules.length=n:=⟨_,rfl⟩;have Iu:=ae (fun (W:World) (hb:Below w.heap.size w W)=>Jp cl.rules R r n W ((h.rules.keep hb).more hb.size) hn (by have:=hc.rl;omega));have KC:=ae (fun (y:Int) (S:Value) (W:World) (hb:Below w.heap.size w W)=>yearG cl A R a r S y W hc (h.grow hb));have V9:=ae (fun (y:Int)=>l7 cl y hc);obtain ⟨N,hNe⟩:∃N,I8 cl=N:=⟨_,rfl⟩;obtain ⟨hN,hN1,Wl⟩:=Gi hc;rw [hNe] at hN hN1 Wl;rw [hN] at Iu;unfold Yp at Iu;have HST:Hid (iE cl N=Ic cl):=ae (by unfold Ic;rw [hNe]);have Eu:=ae hNe;have oO:Hid (∀k≤N,0<=iE cl k/\iE cl k<=262400):=ae (fun k hk=>by have:=wR cl k hc;omega);have hmk:=Qw N (by omega);obtain ⟨i0,hi,hq0,hq1,hq2⟩:=info_parts xx;have HI:=ae hi;have sU:=ae hq0;have kD:=ae hq1;have jr:=ae hq2;clear hi hq0 hq1 hq2;obtain ⟨mm,hmm⟩:∃n,cl.au.length=n:=⟨_,rfl⟩;obtain ⟨ep,mJ⟩:∃n,cl.bn=n:=⟨_,rfl⟩;obtain ⟨lp,hlp⟩:∃n,cl.dA=n:=⟨_,rfl⟩;have e1:aI cl A a R r= #[I ep, .slice A mm a,I lp, .slice R n r]:=by rw [<-hn,<-hmm,<-mJ,<-hlp];rfl
 have e2:∀S,jR cl A a R r S= #[I ep, .slice A mm a,I lp, .slice R n r,S]:=fun S=>by rw [<-hn,<-hmm,<-mJ,<-hlp];rfl
 rw [pY hc,e1] at jQ;rw [e1];clear hn hmm mJ hlp hN hNe;have HV:=ae (AV.new w #[I ep, .slice A mm a,I lp, .slice R n r] 65);go_enter Tryz.func124,Tryz.ntmps124;go_wp2_with fail;have HR:=ae (AV.new (w.alloc (.cells #[I ep, .slice A mm a,I lp, .slice R n r] 65)) #[I 0, .slice none 0 0,I 0, .slice none 0 0, .slice none 0 0] 220);have HI0:=ae (HV.out.below (ag _ (.cells #[I 0, .slice none 0 0,I 0, .slice none 0 0, .slice none 0 0] 220)));have HL0:=ae (ah (ag w (.cells #[I ep, .slice A mm a,I lp, .slice R n r] 65)) (ag _ (.cells #[I 0, .slice none 0 0,I 0, .slice none 0 0, .slice none 0 0] 220)));rw [oU w] at HR;generalize (w.alloc (.cells #[I ep, .slice A mm a,I lp, .slice R n r] 65)).alloc (.cells #[I 0, .slice none 0 0,I 0, .slice none 0 0, .slice none 0 0] 220)=W0 at HR HI0 HL0 ⊢;refine (jQ.out _ HL0.out).mono ?_;rintro e w1 ⟨rfl,hb1⟩;have HR1:=ae (HR.out.below hb1);have HI1:=ae (HI0.out.below hb1);have DD:=ae (ah HL0.out hb1);have v3:=HI1.out.cell 3;clear hb1 HR HI0 HL0 HV jQ;go_wp2_with fail;refine (Iu.out _ DD.out).mono ?_;rintro e w2 ⟨rfl,hb2⟩;have HR2:=ae (HR1.out.below hb2);have HI2:=ae (HI1.out.below hb2);have HL2:=ae (ah DD.out hb2);clear hb2 HR1 HI1 DD Iu v3;go_upto_region 4 with fail;have hw1:IntKind.i64.wrap ((N:Int)+1)=(N:Int)+1:=by rw [IntKind.wrap_i64];omega
 go_cut [6] (fun p wx=>∃vb sb,p= .pointer (some ⟨vb,0,none⟩)/\sO w [I ep, .slice A mm a,I lp, .slice R n r] vb 1 (N+1) (some ⟨sb,0,none⟩) [0] wx)
 case first=>
  have hS0:gK w2.drew w.heap.size #[I ep, .slice A mm a,I lp, .slice R n r]:=HI2.out.drew.jw;refine wp_region_held_drew (S:=fun W=>gK W w.heap.size #[I ep, .slice A mm a,I lp, .slice R n r]) (by kernel_rfl) hS0 (fun _=>?_);have HID:=ae HI2.out.drew;have HRD:=ae HR2.out.drew;have HLD:Hid (Below w.heap.size w w2.drew):=ae (ah HL2.out ((Below.refl _ w2).drew));generalize w2.drew=V at hS0 HID HRD HLD ⊢;clear HI2 HR2 HL2;have hVr:=HRD.out.lt;refine kY 0 ( .agg #[I ep, .slice A mm a,I lp, .slice R n r]) 18 rfl rfl hS0 (yieldsIf_load_mid rfl 65 _ rfl w.heap.size (0) rfl [I ep, .slice A mm a,I lp, .slice R n r] _ (fun _ h=>fun j v hv=>by rw [Nat.zero_add,h.2 j];simpa using hv) Tryz.underlying65 rfl (by kernel_rfl)) ?_;refine az ?_;refine aN 1 (I (N:Int)) 19 hS0 (fun w' hSw=>?_) ?_
  ·clear hSw
   first|(go_simp;done)|(go_simp;with_reducible rfl)
  refine az ?_;refine aN 2 (I ((N:Int)+1)) 20 hS0 (fun w' hSw=>?_) ?_
  ·clear hSw
   first|(go_simp;done)|(go_simp;with_reducible rfl)
  refine az ?_;refine kW 3 5 (fun K hK=>?_) (fun K hK=>?_)
  ·go_simp;have HI3:=ae (HID.out.below (ag V (.cells (Array.replicate (N+1) (I 0)) 3)));have HR3:=ae (HRD.out.below (ag V (.cells (Array.replicate (N+1) (I 0)) 3)));have FK:=ae (ah HLD.out (ag V (.cells (Array.replicate (N+1) (I 0)) 3)));have yY:=ae (heap_alloc_last V (.cells (Array.replicate (N+1) (I 0)) 3));have hS3:gK (V.alloc (.cells (Array.replicate (N+1) (I 0)) 3)) w.heap.size #[I ep, .slice A mm a,I lp, .slice R n r]:=HI3.out.jw;refine hK.out _ _ hS3 (fun _=>?_);clear hK K;refine az ?_;generalize (V.alloc (.cells (Array.replicate (N+1) (I 0)) 3))=V3 at HI3 HR3 FK yY hS3 ⊢;obtain ⟨sb,hsb0⟩:∃b,V.heap.size=b:=⟨_,rfl⟩;rw [hsb0] at yY ⊢;have hsb:w.heap.size+2<=sb:=by omega
   clear hsb0;refine kY 4 ( .agg #[I ep, .slice A mm a,I lp, .slice R n r, .slice (some ⟨sb,0,none⟩) 1 (N+1)]) 22 rfl rfl hS3 (bJ rfl 220 _ rfl _ (by kernel_rfl)) ?_;refine az ?_;refine aY 5 (fun K hK=>?_);refine jh (o:=⟨some 6, .alloc 220,_,_,_,none⟩) rfl 220 rfl #[I 0, .slice none 0 0,I 0, .slice none 0 0, .slice none 0 0] (by kernel_rfl) ?_;have Ro:=ae (HI3.out.below (ag V3 (.cells #[I 0, .slice none 0 0,I 0, .slice none 0 0, .slice none 0 0] 220)));have sV:=ae (HR3.out.below (ag V3 (.cells #[I 0, .slice none 0 0,I 0, .slice none 0 0, .slice none 0 0] 220)));have ZB:=ae (ah FK.out (ag V3 (.cells #[I 0, .slice none 0 0,I 0, .slice none 0 0, .slice none 0 0] 220)));have HV5:=ae (AV.new V3 #[I 0, .slice none 0 0,I 0, .slice none 0 0, .slice none 0 0] 220);have hS5:gK (V3.alloc (.cells #[I 0, .slice none 0 0,I 0, .slice none 0 0, .slice none 0 0] 220)) w.heap.size #[I ep, .slice A mm a,I lp, .slice R n r]:=Ro.out.jw;have ZF:=ae ((Below.heap_alloc V3 (.cells #[I 0, .slice none 0 0,I 0, .slice none 0 0, .slice none 0 0] 220) sb (bV.1 yY.out).1).trans yY.out);have hvs:V3.heap.size≠sb:=by have:=(bV.1 yY.out).1;omega
   have hvb:w.heap.size+2<=V3.heap.size:=by have:=(bV.1 yY.out).1;omega
   refine hK.out _ _ hS5 (fun _=>?_);clear hK K;refine az ?_;generalize V3.alloc (.cells #[I 0, .slice none 0 0,I 0, .slice none 0 0, .slice none 0 0] 220)=V5 at Ro sV ZB ZF HV5 hS5 ⊢;generalize V3.heap.size=vb at HV5 hvs hvb ⊢;refine aY 6 (fun K hK=>?_);refine ji (o:=⟨none, .store 220 (.tmp 6) (.tmp 22),_,_,_,none⟩) rfl 220 _ _ rfl vb #[I ep, .slice A mm a,I lp, .slice R n r, .slice (some ⟨sb,0,none⟩) 1 (N+1)] rfl rfl 220 #[I 0, .slice none 0 0,I 0, .slice none 0 0, .slice none 0 0] HV5.out.var (by kernel_rfl) rfl (by kernel_rfl) ?_;have HF:=ae (sO.makeG ZB.out Ro.out sV.out HV5.out ZF.out hvs hvb hsb hN1 Wl);have RF:gK (V5.setRow vb #[I ep, .slice A mm a,I lp, .slice R n r, .slice (some ⟨sb,0,none⟩) 1 (N+1)]) w.heap.size #[I ep, .slice A mm a,I lp, .slice R n r]:=HF.out.it.jw;refine hK.out _ _ RF (fun _=>?_);clear hK K;try simp only [Act.put]
   refine wpAnyH_done (by kernel_rfl) ?_ _;go_wp2_with fail;go_meet;exact ⟨_,_,rfl,HF.out⟩
  ·refine jh (o:=⟨some 6, .alloc 220,_,_,_,none⟩) rfl 220 rfl #[I 0, .slice none 0 0,I 0, .slice none 0 0, .slice none 0 0] (by kernel_rfl) ?_;have Ro:=ae (HID.out.below (ag V (.cells #[I 0, .slice none 0 0,I 0, .slice none 0 0, .slice none 0 0] 220)));have sV:=ae (HRD.out.below (ag V (.cells #[I 0, .slice none 0 0,I 0, .slice none 0 0, .slice none 0 0] 220)));have ZB:=ae (ah HLD.out (ag V (.cells #[I 0, .slice none 0 0,I 0, .slice none 0 0, .slice none 0 0] 220)));have HV5:=ae (AV.new V #[I 0, .slice none 0 0,I 0, .slice none 0 0, .slice none 0 0] 220);have hS5:gK (V.alloc (.cells #[I 0, .slice none 0 0,I 0, .slice none 0 0, .slice none 0 0] 220)) w.heap.size #[I ep, .slice A mm a,I lp, .slice R n r]:=Ro.out.jw;refine hK.out _ _ hS5 (fun _=>?_);clear hK K;refine az ?_;generalize (V.alloc (.cells #[I 0, .slice none 0 0,I 0, .slice none 0 0, .slice none 0 0] 220))=V5 at Ro sV ZB HV5 hS5 ⊢;obtain ⟨vb,hvb0⟩:∃b,V.heap.size=b:=⟨_,rfl⟩;rw [hvb0] at HV5 ⊢;have hvb:w.heap.size+2<=vb:=by omega
   clear hvb0;refine aY 3 (fun K hK=>?_);go_simp;have HI3:=ae (Ro.out.below (ag V5 (.cells (Array.replicate (N+1) (I 0)) 3)));have HR3:=ae (sV.out.below (ag V5 (.cells (Array.replicate (N+1) (I 0)) 3)));have FK:=ae (ah ZB.out (ag V5 (.cells (Array.replicate (N+1) (I 0)) 3)));have yY:=ae (heap_alloc_last V5 (.cells (Array.replicate (N+1) (I 0)) 3));have hS3:gK (V5.alloc (.cells (Array.replicate (N+1) (I 0)) 3)) w.heap.size #[I ep, .slice A mm a,I lp, .slice R n r]:=HI3.out.jw;have tY:=ae (HV5.out.below (ag V5 (.cells (Array.replicate (N+1) (I 0)) 3)));have hvs:vb≠V5.heap.size:=by have:=HV5.out.lt;omega
   have hsb:w.heap.size+2<=V5.heap.size:=by have:=HV5.out.lt;omega
   refine hK.out _ _ hS3 (fun _=>?_);clear hK K;refine az ?_;generalize V5.alloc (.cells (Array.replicate (N+1) (I 0)) 3)=V3 at HI3 HR3 FK yY tY hS3 ⊢;generalize V5.heap.size=sb at yY hvs hsb ⊢;refine kY 4 ( .agg #[I ep, .slice A mm a,I lp, .slice R n r, .slice (some ⟨sb,0,none⟩) 1 (N+1)]) 22 rfl rfl hS3 (bJ rfl 220 _ rfl _ (by kernel_rfl)) ?_;refine az ?_;refine aY 6 (fun K hK=>?_);refine ji (o:=⟨none, .store 220 (.tmp 6) (.tmp 22),_,_,_,none⟩) rfl 220 _ _ rfl vb #[I ep, .slice A mm a,I lp, .slice R n r, .slice (some ⟨sb,0,none⟩) 1 (N+1)] rfl rfl 220 #[I 0, .slice none 0 0,I 0, .slice none 0 0, .slice none 0 0] tY.out.var (by kernel_rfl) rfl (by kernel_rfl) ?_;have HF:=ae (sO.makeG FK.out HI3.out HR3.out tY.out yY.out hvs hvb hsb hN1 Wl);have RF:gK (V3.setRow vb #[I ep, .slice A mm a,I lp, .slice R n r, .slice (some ⟨sb,0,none⟩) 1 (N+1)]) w.heap.size #[I ep, .slice A mm a,I lp, .slice R n r]:=HF.out.it.jw;refine hK.out _ _ RF (fun _=>?_);clear hK K;try simp only [Act.put]
   refine wpAnyH_done (by kernel_rfl) ?_ _;go_wp2_with fail;go_meet;exact ⟨_,_,rfl,HF.out⟩
 case rest=>
  obtain ⟨vb,sb,rfl,ha⟩:=hcut;have HA:=ae ha;clear ha HI2 HR2 HL2 hmk hw1 hc h;go_wp2_with fail
  go_loopw [24] (fun i wr=>∃(k c:Nat) (S:Option Addr) (ss:List Int),k<=N/\i=I (k:Nat)/\ss.length=k+1/\ss[k]? =some (iE cl k)/\sO w [I ep, .slice A mm a,I lp, .slice R n r] vb (k+1) c S ss wr) (fun i _=>N - (intOf i).toNat)
  case atStart=>exact ⟨0,N+1,_,[0],Nat.zero_le _,rfl,rfl,rfl,HA.out⟩
  case round=>
   clear HA;obtain ⟨k,c,S,ss,hkN,rfl,hsl,hsk,hw⟩:=hrel;have HX0:=ae hw;have V6:=ae hsl;have ZH:=ae hsk;clear hw hsl hsk;by_cases hlt:k<N
   ·have i1:(k:Int)<(N:Int):=by omega
    obtain ⟨g,rfl,hg,hgw,hkc,hgc⟩:=HX0.out.there;obtain ⟨s,hs⟩:∃s,iE cl k=s:=⟨_,rfl⟩;obtain ⟨yk,hyk⟩:∃y,uY cl ((k:Int)+1)=y:=⟨_,rfl⟩;have HYK:=ae (KC.out ((k:Int)+1) (.slice (some ⟨g,0,none⟩) (k+1) c));have hyb:=V9.out ((k:Int)+1);have hsb:=oO.out k hkN;rw [hs] at ZH hsb;rw [hyk,e2] at HYK;rw [hyk] at hyb;have AL:Hid (iE cl (k+1)=s+yk):=ae (by rw [<-hs,<-hyk];rfl);clear hs hyk hgc;have ww:IntKind.i64.wrap (s+yk)=s+yk:=by rw [IntKind.wrap_i64];omega
    have hwk:IntKind.i64.wrap ((k:Int)+1)=(k:Int)+1:=by rw [IntKind.wrap_i64];omega
    have j0:(0:Int)<=(k:Int):=by omega
    have j1:(k:Int)<(k:Int)+1:=by omega
    go_upto_block 1 with fail
    go_cut [7] (fun p wx=>p=I (k:Nat)/\∃c2 S2,sO w [I ep, .slice A mm a,I lp, .slice R n r] vb (k+1+1) c2 S2 (ss++ [s+yk]) wx)
    case first=>
     go_upto_region 8 with fail;have sW:=ae HX0.out.drew;refine wp_region_held_drew (S:=fun _=>True) (by kernel_rfl) trivial (fun _=>?_);generalize wr.drew=V0 at sW ⊢;clear HX0 hgw;refine aN 0 (.pointer (some ⟨vb,4,none⟩)) 27 trivial (fun w' hSw=>?_) ?_
     ·clear hSw
      first|(go_simp;done)|(go_simp;with_reducible rfl)
     refine az ?_;refine aN 2 (.pointer (some ⟨vb,4,none⟩)) 29 trivial (fun w' hSw=>?_) ?_
     ·clear hSw
      first|(go_simp;done)|(go_simp;with_reducible rfl)
     refine az ?_;refine aN 4 (I (k:Int)) 31 trivial (fun w' hSw=>?_) ?_
     ·clear hSw
      first|(go_simp;done)|(go_simp;with_reducible rfl)
     refine az ?_;refine aN 8 (I (k:Int)) 35 trivial (fun w' hSw=>?_) ?_
     ·clear hSw
      first|(go_simp;done)|(go_simp;with_reducible rfl)
     refine az ?_;refine aN 9 (I ((k:Int)+1)) 36 trivial (fun w' hSw=>?_) ?_
     ·clear hSw
      first|(go_simp;done)|(go_simp;with_reducible rfl)
     refine az ?_;apply memo (C:=(fun W=>sO w [I ep, .slice A mm a,I lp, .slice R n r] vb (k+1) c (some ⟨g,0,none⟩) ss W));intro ug;apply memo (C:=(fun W=>sO w [I ep, .slice A mm a,I lp, .slice R n r] vb (k+1) c (some ⟨g,0,none⟩) ss W));intro uf;apply memo (C:=(fun W=>sO w [I ep, .slice A mm a,I lp, .slice R n r] vb (k+1) c (some ⟨g,0,none⟩) ss W));intro Bj;apply memo (C:=(fun W=>sO w [I ep, .slice A mm a,I lp, .slice R n r] vb (k+1) c (some ⟨g,0,none⟩) ss W));intro SB;apply memo (C:=(fun W=>sO w [I ep, .slice A mm a,I lp, .slice R n r] vb (k+1) c (some ⟨g,0,none⟩) ss W));intro yw;apply memo (C:=(fun W=>sO w [I ep, .slice A mm a,I lp, .slice R n r] vb (k+1) c (some ⟨g,0,none⟩) ss W));intro Lu;apply memo (C:=(fun W=>sO w [I ep, .slice A mm a,I lp, .slice R n r] vb (k+1) c (some ⟨g,0,none⟩) ss W));intro M1_3;apply memo (C:=(fun W=>sO w [I ep, .slice A mm a,I lp, .slice R n r] vb (k+1) c (some ⟨g,0,none⟩) ss W));intro Og;apply memo (C:=(fun W=>sO w [I ep, .slice A mm a,I lp, .slice R n r] vb (k+1) c (some ⟨g,0,none⟩) ss W));intro M1_7;apply memo (C:=(fun W=>sO w [I ep, .slice A mm a,I lp, .slice R n r] vb (k+1) c (some ⟨g,0,none⟩) ss W));intro M1;apply memo (C:=(fun W=>sO w [I ep, .slice A mm a,I lp, .slice R n r] vb (k+1) c (some ⟨g,0,none⟩) ss W));intro FV;apply memo (C:=(fun W=>sO w [I ep, .slice A mm a,I lp, .slice R n r] vb (k+1) c (some ⟨g,0,none⟩) ss W));intro EH;apply memo (C:=(fun W=>sO w [I ep, .slice A mm a,I lp, .slice R n r] vb (k+1) c (some ⟨g,0,none⟩) ss W));intro SC;apply memo (C:=(fun W=>sO w [I ep, .slice A mm a,I lp, .slice R n r] vb (k+1) c (some ⟨g,0,none⟩) ss W));intro M3_6;apply memo (C:=(fun W=>sO w [I ep, .slice A mm a,I lp, .slice R n r] vb (k+1) c (some ⟨g,0,none⟩) ss W));intro Oh;apply memo (C:=(fun W=>sO w [I ep, .slice A mm a,I lp, .slice R n r] vb (k+1) c (some ⟨g,0,none⟩) ss W));intro M3_7;apply memo (C:=(fun W=>sO w [I ep, .slice A mm a,I lp, .slice R n r] vb (k+1) c (some ⟨g,0,none⟩) ss W));intro M3;apply memo (C:=(fun W=>sO w [I ep, .slice A mm a,I lp, .slice R n r] vb (k+1) c (some ⟨g,0,none⟩) ss W));intro M7_10;apply memo (C:=(fun W=>sO w [I ep, .slice A mm a,I lp, .slice R n r] vb (k+1) c (some ⟨g,0,none⟩) ss W));intro M7;refine wpAnyH_ready (rs:= [1,3,7]) (by kernel_rfl) (by simp) ?_;refine AllReadyH.cons rfl (fun K hK=>?_) (AllReadyH.cons rfl (fun K hK=>?_) (AllReadyH.cons rfl (fun K hK=>?_) AllReadyH.nil))
     ·have c4:=sW.out.var.cell 4;go_simp;clear c4;refine hK.out _ _ trivial (fun _=>?_);clear hK K;refine az ?_;exact M1 _ sW.out
     ·have c4:=sW.out.var.cell 4;go_simp;clear c4;refine hK.out _ _ trivial (fun _=>?_);clear hK K;refine az ?_;refine aN 5 (.pointer (some ⟨g,k,none⟩)) 32 trivial (fun w' hSw=>?_) ?_
      ·clear hSw
       first|(go_simp;done)|(go_simp;with_reducible rfl)
      refine az ?_;exact M3 _ sW.out
     ·refine ik (o:=⟨some 34, .load 220 (.tmp 6),_,_,_,none⟩) rfl 220 _ rfl vb 0 rfl [I ep, .slice A mm a,I lp, .slice R n r,(.slice (some ⟨g,0,none⟩) (k+1) c)] _ (fun j v hv=>by rw [Nat.zero_add,sW.out.var.cell j];simpa using hv) Tryz.underlying220 rfl (by kernel_rfl) ?_;refine hK.out _ _ trivial (fun _=>?_);clear hK K;refine az ?_;exact M7 _ sW.out
     ·intro V hV;have iU:=ae hV;clear hV;refine wpAnyH_ready (rs:= [1,3,10]) (by kernel_rfl) (by simp) ?_;refine AllReadyH.cons rfl (fun K hK=>?_) (AllReadyH.cons rfl (fun K hK=>?_) (AllReadyH.cons rfl (fun K hK=>?_) AllReadyH.nil))
      ·have c4:=iU.out.var.cell 4;go_simp;clear c4;refine hK.out _ _ trivial (fun _=>?_);clear hK K;refine az ?_;exact M1_7 _ iU.out
      ·have c4:=iU.out.var.cell 4;go_simp;clear c4;refine hK.out _ _ trivial (fun _=>?_);clear hK K;refine az ?_;refine aN 5 (.pointer (some ⟨g,k,none⟩)) 32 trivial (fun w' hSw=>?_) ?_
       ·clear hSw
        first|(go_simp;done)|(go_simp;with_reducible rfl)
       refine az ?_;exact M3_7 _ iU.out
      ·go_simp;refine (HYK.out V iU.out.lo).mono ?_;rintro e W6 ⟨rfl,hb6⟩;have qL:=ae (iU.out.grow hb6);clear hb6;refine hK.out _ _ trivial (fun _=>?_);clear hK K;refine az ?_;exact M7_10 _ qL.out
     ·intro V hV;have iU:=ae hV;clear hV;refine kW 1 3 (fun K hK=>?_) (fun K hK=>?_)
      ·have c4:=iU.out.var.cell 4;go_simp;clear c4;refine hK.out _ _ trivial (fun _=>?_);clear hK K;refine az ?_;exact Og _ iU.out
      ·have c4:=iU.out.var.cell 4;go_simp;clear c4;refine hK.out _ _ trivial (fun _=>?_);clear hK K;refine az ?_;refine aN 5 (.pointer (some ⟨g,k,none⟩)) 32 trivial (fun w' hSw=>?_) ?_
       ·clear hSw
        first|(go_simp;done)|(go_simp;with_reducible rfl)
       refine az ?_;exact Oh _ iU.out
     ·intro V hV;have iU:=ae hV;clear hV;refine wpAnyH_ready (rs:= [1,6,7]) (by kernel_rfl) (by simp) ?_;refine AllReadyH.cons rfl (fun K hK=>?_) (AllReadyH.cons rfl (fun K hK=>?_) (AllReadyH.cons rfl (fun K hK=>?_) AllReadyH.nil))
      ·have c4:=iU.out.var.cell 4;go_simp;clear c4;refine hK.out _ _ trivial (fun _=>?_);clear hK K;refine az ?_;exact M1_3 _ iU.out
      ·obtain ⟨_,e,_,_,_,hgc⟩:=iU.out.there;injection e with e;injection e with e;subst e;have cs:=hgc k s ZH.out;clear hgc;go_simp;clear cs;refine hK.out _ _ trivial (fun _=>?_);clear hK K;refine az ?_;exact M3_6 _ iU.out
      ·refine ik (o:=⟨some 34, .load 220 (.tmp 6),_,_,_,none⟩) rfl 220 _ rfl vb 0 rfl [I ep, .slice A mm a,I lp, .slice R n r,(.slice (some ⟨g,0,none⟩) (k+1) c)] _ (fun j v hv=>by rw [Nat.zero_add,iU.out.var.cell j];simpa using hv) Tryz.underlying220 rfl (by kernel_rfl) ?_;refine hK.out _ _ trivial (fun _=>?_);clear hK K;refine az ?_;exact M3_7 _ iU.out
     ·intro V hV;have iU:=ae hV;clear hV;refine wpAnyH_ready (rs:= [1,6,10]) (by kernel_rfl) (by simp) ?_;refine AllReadyH.cons rfl (fun K hK=>?_) (AllReadyH.cons rfl (fun K hK=>?_) (AllReadyH.cons rfl (fun K hK=>?_) AllReadyH.nil))
      ·have c4:=iU.out.var.cell 4;go_simp;clear c4;refine hK.out _ _ trivial (fun _=>?_);clear hK K;refine az ?_;exact Lu _ iU.out
      ·obtain ⟨_,e,_,_,_,hgc⟩:=iU.out.there;injection e with e;injection e with e;subst e;have cs:=hgc k s ZH.out;clear hgc;go_simp;clear cs;refine hK.out _ _ trivial (fun _=>?_);clear hK K;refine az ?_;exact SC _ iU.out
      ·go_simp;refine (HYK.out V iU.out.lo).mono ?_;rintro e W14 ⟨rfl,hb14⟩;have HX14:=ae (iU.out.grow hb14);clear hb14;refine hK.out _ _ trivial (fun _=>?_);clear hK K;refine az ?_;exact Oh _ HX14.out
     ·intro V hV;have iU:=ae hV;clear hV;refine kW 1 6 (fun K hK=>?_) (fun K hK=>?_)
      ·have c4:=iU.out.var.cell 4;go_simp;clear c4;refine hK.out _ _ trivial (fun _=>?_);clear hK K;refine az ?_;exact yw _ iU.out
      ·obtain ⟨_,e,_,_,_,hgc⟩:=iU.out.there;injection e with e;injection e with e;subst e;have cs:=hgc k s ZH.out;clear hgc;go_simp;clear cs;refine hK.out _ _ trivial (fun _=>?_);clear hK K;refine az ?_;refine aN 11 (I (s+yk)) 38 trivial (fun w' hSw=>?_) ?_
       ·clear hSw
        first|(go_simp;done)|(go_simp;with_reducible rfl)
       refine az ?_;exact EH _ iU.out
     ·intro V hV;have iU:=ae hV;clear hV;refine kW 1 7 (fun K hK=>?_) (fun K hK=>?_)
      ·have c4:=iU.out.var.cell 4;go_simp;clear c4;refine hK.out _ _ trivial (fun _=>?_);clear hK K;refine az ?_;exact SB _ iU.out
      ·refine ik (o:=⟨some 34, .load 220 (.tmp 6),_,_,_,none⟩) rfl 220 _ rfl vb 0 rfl [I ep, .slice A mm a,I lp, .slice R n r,(.slice (some ⟨g,0,none⟩) (k+1) c)] _ (fun j v hv=>by rw [Nat.zero_add,iU.out.var.cell j];simpa using hv) Tryz.underlying220 rfl (by kernel_rfl) ?_;refine hK.out _ _ trivial (fun _=>?_);clear hK K;refine az ?_;exact SC _ iU.out
     ·intro V hV;have iU:=ae hV;clear hV;refine kW 1 10 (fun K hK=>?_) (fun K hK=>?_)
      ·have c4:=iU.out.var.cell 4;go_simp;clear c4;refine hK.out _ _ trivial (fun _=>?_);clear hK K;refine az ?_;exact Bj _ iU.out
      ·go_simp;refine (HYK.out V iU.out.lo).mono ?_;rintro e W20 ⟨rfl,hb20⟩;have HX20:=ae (iU.out.grow hb20);clear hb20;refine hK.out _ _ trivial (fun _=>?_);clear hK K;refine az ?_;refine aN 11 (I (s+yk)) 38 trivial (fun w' hSw=>?_) ?_
       ·clear hSw
        first|(go_simp;done)|(go_simp;with_reducible rfl)
       refine az ?_;exact EH _ HX20.out
     ·intro V hV;have iU:=ae hV;clear hV;refine kW 1 12 (fun K hK=>?_) (fun K hK=>?_)
      ·have c4:=iU.out.var.cell 4;go_simp;clear c4;refine hK.out _ _ trivial (fun _=>?_);clear hK K;refine az ?_;exact uf _ iU.out
      ·go_simp;refine hK.out _ _ trivial (fun _=>?_);clear hK K;refine az ?_;exact FV V iU.out
     ·intro V1 hV;have Lm:=ae hV;have iU:=ae (hV.grow (ag V1 (.cells #[I (s+yk)] 3)));clear hV;refine aY 1 (fun K hK=>?_);have c4:=iU.out.var.cell 4;go_simp;clear c4;refine hK.out _ _ trivial (fun _=>?_);clear hK K;refine az ?_;exact ug V1 Lm.out
     ·intro V hV;have iU:=ae hV;clear hV;refine kW 3 7 (fun K hK=>?_) (fun K hK=>?_)
      ·have c4:=iU.out.var.cell 4;go_simp;clear c4;refine hK.out _ _ trivial (fun _=>?_);clear hK K;refine az ?_;refine aN 5 (.pointer (some ⟨g,k,none⟩)) 32 trivial (fun w' hSw=>?_) ?_
       ·clear hSw
        first|(go_simp;done)|(go_simp;with_reducible rfl)
       refine az ?_;exact M1_3 _ iU.out
      ·refine ik (o:=⟨some 34, .load 220 (.tmp 6),_,_,_,none⟩) rfl 220 _ rfl vb 0 rfl [I ep, .slice A mm a,I lp, .slice R n r,(.slice (some ⟨g,0,none⟩) (k+1) c)] _ (fun j v hv=>by rw [Nat.zero_add,iU.out.var.cell j];simpa using hv) Tryz.underlying220 rfl (by kernel_rfl) ?_;refine hK.out _ _ trivial (fun _=>?_);clear hK K;refine az ?_;exact M1_7 _ iU.out
     ·intro V hV;have iU:=ae hV;clear hV;refine kW 3 10 (fun K hK=>?_) (fun K hK=>?_)
      ·have c4:=iU.out.var.cell 4;go_simp;clear c4;refine hK.out _ _ trivial (fun _=>?_);clear hK K;refine az ?_;refine aN 5 (.pointer (some ⟨g,k,none⟩)) 32 trivial (fun w' hSw=>?_) ?_
       ·clear hSw
        first|(go_simp;done)|(go_simp;with_reducible rfl)
       refine az ?_;exact Lu _ iU.out
      ·go_simp;refine (HYK.out V iU.out.lo).mono ?_;rintro e W27 ⟨rfl,hb27⟩;have HX27:=ae (iU.out.grow hb27);clear hb27;refine hK.out _ _ trivial (fun _=>?_);clear hK K;refine az ?_;exact Og _ HX27.out
     ·intro V hV;have iU:=ae hV;clear hV;refine aY 3 (fun K hK=>?_);have c4:=iU.out.var.cell 4;go_simp;clear c4;refine hK.out _ _ trivial (fun _=>?_);clear hK K;refine az ?_;refine aN 5 (.pointer (some ⟨g,k,none⟩)) 32 trivial (fun w' hSw=>?_) ?_
      ·clear hSw
       first|(go_simp;done)|(go_simp;with_reducible rfl)
      refine az ?_;exact yw _ iU.out
     ·intro V hV;have iU:=ae hV;clear hV;refine kW 6 7 (fun K hK=>?_) (fun K hK=>?_)
      ·obtain ⟨_,e,_,_,_,hgc⟩:=iU.out.there;injection e with e;injection e with e;subst e;have cs:=hgc k s ZH.out;clear hgc;go_simp;clear cs;refine hK.out _ _ trivial (fun _=>?_);clear hK K;refine az ?_;exact SB _ iU.out
      ·refine ik (o:=⟨some 34, .load 220 (.tmp 6),_,_,_,none⟩) rfl 220 _ rfl vb 0 rfl [I ep, .slice A mm a,I lp, .slice R n r,(.slice (some ⟨g,0,none⟩) (k+1) c)] _ (fun j v hv=>by rw [Nat.zero_add,iU.out.var.cell j];simpa using hv) Tryz.underlying220 rfl (by kernel_rfl) ?_;refine hK.out _ _ trivial (fun _=>?_);clear hK K;refine az ?_;exact Lu _ iU.out
     ·intro V hV;have iU:=ae hV;clear hV;refine kW 6 10 (fun K hK=>?_) (fun K hK=>?_)
      ·obtain ⟨_,e,_,_,_,hgc⟩:=iU.out.there;injection e with e;injection e with e;subst e;have cs:=hgc k s ZH.out;clear hgc;go_simp;clear cs;refine hK.out _ _ trivial (fun _=>?_);clear hK K;refine az ?_;exact Bj _ iU.out
      ·go_simp;refine (HYK.out V iU.out.lo).mono ?_;rintro e W32 ⟨rfl,hb32⟩;have HX32:=ae (iU.out.grow hb32);clear hb32;refine hK.out _ _ trivial (fun _=>?_);clear hK K;refine az ?_;exact yw _ HX32.out
     ·intro V hV;have iU:=ae hV;clear hV;refine aY 6 (fun K hK=>?_);obtain ⟨_,e,_,_,_,hgc⟩:=iU.out.there;injection e with e;injection e with e;subst e;have cs:=hgc k s ZH.out;clear hgc;go_simp;clear cs;refine hK.out _ _ trivial (fun _=>?_);clear hK K;refine az ?_;refine aN 11 (I (s+yk)) 38 trivial (fun w' hSw=>?_) ?_
      ·clear hSw
       first|(go_simp;done)|(go_simp;with_reducible rfl)
      refine az ?_;exact uf _ iU.out
     ·intro V hV;have iU:=ae hV;clear hV;refine aY 7 (fun K hK=>?_);refine ik (o:=⟨some 34, .load 220 (.tmp 6),_,_,_,none⟩) rfl 220 _ rfl vb 0 rfl [I ep, .slice A mm a,I lp, .slice R n r,(.slice (some ⟨g,0,none⟩) (k+1) c)] _ (fun j v hv=>by rw [Nat.zero_add,iU.out.var.cell j];simpa using hv) Tryz.underlying220 rfl (by kernel_rfl) ?_;refine hK.out _ _ trivial (fun _=>?_);clear hK K;refine az ?_;exact Bj _ iU.out
     ·intro V hV;have iU:=ae hV;clear hV;refine aY 10 (fun K hK=>?_);go_simp;refine (HYK.out V iU.out.lo).mono ?_;rintro e W35 ⟨rfl,hb35⟩;have HX35:=ae (iU.out.grow hb35);clear hb35;refine hK.out _ _ trivial (fun _=>?_);clear hK K;refine az ?_;refine aN 11 (I (s+yk)) 38 trivial (fun w' hSw=>?_) ?_
      ·clear hSw
       first|(go_simp;done)|(go_simp;with_reducible rfl)
      refine az ?_;exact uf _ HX35.out
     ·intro V hV;have iU:=ae hV;clear hV;refine aY 12 (fun K hK=>?_);go_simp;refine hK.out _ _ trivial (fun _=>?_);clear hK K;refine az ?_;exact ug V iU.out
     ·intro V1 hV;have Lm:=ae hV;have iU:=ae (hV.grow (ag V1 (.cells #[I (s+yk)] 3)));clear hV;refine aY 13 (fun K hK=>?_);have vI:=Lm.out.var.lt;have hvge:=Lm.out.ge;refine step_append_lies _ (by rfl) _ _ _ (by rfl) (w.heap.size+2) 3 i0 (.int .i64 0) 1 8 Tryz.underlying62 HI.out sU.out kD.out jr.out rfl (by omega) (.slice (some ⟨g,0,none⟩) (k+1) c) (k+1) (ss.map I) (by rfl) iU.out.own ⟨V1.heap.size,0,none⟩ 1 1 [I (s+yk)] (by rfl) rfl (dB V1 _ _ _ rfl) (fun y hy=>by rw [List.mem_singleton.1 hy];rfl) (by omega) (by unfold maxLen;omega) (by omega) (by simp;omega) _ rfl ?_;intro gg cap w6 hown6 hgrow6 gu _;have jm:=ae (Lm.out.add rfl rfl hown6 hgrow6 gu);have V7:Hid (AV vb 220 #[I ep, .slice A mm a,I lp, .slice R n r,(.slice (some ⟨g,0,none⟩) (k+1) c)] w6):=ae ⟨(hgrow6.block _ (by simp;omega) Lm.out.ne).trans ((Below.heap_alloc _ _ _ vI).trans Lm.out.var.var)⟩;clear hown6 hgrow6 gu;refine hK.out _ _ trivial (fun _=>?_);clear hK K;try simp only [Act.put,List.setIfInBounds_toArray]
      refine aN 14 (.pointer (some ⟨vb,4,none⟩)) 41 trivial (fun w' hSw=>?_) ?_
      ·clear hSw
       first|(go_simp;done)|(go_simp;with_reducible rfl)
      try simp only [Act.put]
      refine aY 15 (fun K hK=>?_);have c4:=V7.out.cell 4;have f4:=V7.out.fZ 4;go_simp;refine hK.out _ _ trivial (fun _=>?_);clear hK K;refine wpAnyH_done (by kernel_rfl) ?_ _;go_wp2_with fail;go_meet;exact ⟨rfl,_,_,jm.out⟩
    case rest=>
     obtain ⟨rfl,c2,S2,hw2⟩:=hcut;have zV:=ae hw2;clear hw2 HX0;go_wp2_with fail;go_roundw
     case rel=>exact ⟨k+1,c2,S2,_,by omega,by go_num,by rw [bF,V6.out];rfl,by rw [List.getElem?_append_right (by rw [V6.out];omega),V6.out,Nat.sub_self,AL.out];rfl,zV.out⟩
     case measure=>simp [intOf];omega
   ·have i1:¬(k:Int)<(N:Int):=by omega
    have hkN2:k=N:=by omega
    have oC:=ae hkN2;have rv:=HX0.out.r;have vG:=ae rv;clear rv hkN2;go_wp2_with (first
     |((with_reducible refine dY 220 ?_);go_must (refine aP rfl _ _ rfl vb rfl #[I ep, .slice A mm a,I lp, .slice R n r, .slice S (k+1) c] HX0.out.var.jw _ Tryz.underlying220 rfl (by kernel_rfl) ?_))
     |((with_reducible refine bY 220 ?_);go_must (refine wpList_store_row rfl _ _ _ rfl (w.heap.size+1) #[I ep, .slice A mm a,I lp, .slice R n r, .slice S (k+1) c] rfl rfl 220 #[I 0, .slice none 0 0,I 0, .slice none 0 0, .slice none 0 0] vG.out.var (by kernel_rfl) rfl (by simp [Value.oneCell']) ?_)))
    refine bodyPost_ret (v:= .tuple #[.agg #[I ep, .slice A mm a,I lp, .slice R n r, .slice S (k+1) c], .bool true]) (aV rfl _ _ (w.heap.size+1) _ #[I ep, .slice A mm a,I lp, .slice R n r, .slice S (k+1) c] (0,0) _ rfl (setRow_heap _ _ _ _ _ _ vG.out.var) Tryz.underlying220 rfl (by kernel_rfl) _ rfl) rfl ?_;obtain ⟨g,rfl,hg,hgw,hkc,hgc⟩:=HX0.out.there;refine ⟨some ⟨g,0,none⟩,k+1,c,ss,by rw [e2],?_,V6.out,?_, .inr ⟨g,0,rfl,by rw [setRow_size];exact hgw,fun j hj=>?_⟩,hkc,aB HX0.out.lo (by omega) _⟩
    ·rw [Eu.out,oC.out]
    ·rw [Nat.add_sub_cancel,ZH.out,oC.out,HST.out]
    ·rw [Nat.zero_add];have hb:(wr.setRow (w.heap.size+1) #[I ep, .slice A mm a,I lp, .slice R n r, .slice (some ⟨g,0,none⟩) (k+1) c]).heap[g]? =wr.heap[g]? :=setRow_other _ _ g _ (by omega);have h7:(wr.setRow (w.heap.size+1) #[I ep, .slice A mm a,I lp, .slice R n r, .slice (some ⟨g,0,none⟩) (k+1) c]).cell? ⟨g,j,none⟩=wr.cell? ⟨g,j,none⟩:=by
      simp only [World.cell?,hb]
     rw [h7];exact hgc j _ (by rw [bK hj];rfl)
theorem cycleG (c:Cal) (A R S:Option Addr) (a r k0 cp:Nat) (ss:List Int) (w:World) (hc:fJ c) (hk:k0=I8 c+1) (hl:ss.length=k0) (hs:ss[k0 - 1]? =some (Ic c)) (hI:ku w w.heap.size S ss) (hkc:k0<=cp):Calls Tryz.prog 125 #[.agg (jR c A a R r (.slice S k0 cp))] w (Gives (.tuple #[I (I8 c:Int),I (Ic c)]) w):=by
 have hcb:=Gi hc;obtain ⟨k,hky⟩:∃k,I8 c=k:=⟨_,rfl⟩;rw [hky] at hk hcb;subst hk;rw [Nat.add_sub_cancel] at hs;have hkl:k<ss.length:=by omega
 obtain ⟨dd,hdd⟩:∃d,Ic c=d:=⟨_,rfl⟩;rw [hky,hdd];rw [hdd] at hs;rcases hI with h0|⟨b,off,rfl,hb,hcl⟩
 ·omega
 have f:w.cell? ⟨b,off+k,none⟩=some (I dd):=by rw [hcl k hkl,hs];rfl
 have hne:¬b=w.heap.size:=by omega
 have hk0:(0:Int)<=(k:Int):=by omega
 have hkb:(k:Int)<=400:=by omega
 have hk1:(k:Int)<(k:Int)+1:=by omega
 obtain ⟨n,hn⟩:∃n,c.rules.length=n:=⟨_,rfl⟩;obtain ⟨mm,hmm⟩:∃n,c.au.length=n:=⟨_,rfl⟩;obtain ⟨ep,mJ⟩:∃n,c.bn=n:=⟨_,rfl⟩;obtain ⟨lp,hlp⟩:∃n,c.dA=n:=⟨_,rfl⟩;have e0:jR c A a R r (.slice (some ⟨b,off,none⟩) (k+1) cp)= #[I ep, .slice A mm a,I lp, .slice R n r, .slice (some ⟨b,off,none⟩) (k+1) cp]:=by rw [<-hn,<-hmm,<-mJ,<-hlp];rfl
 rw [e0];have HV:=ae (jD.start w #[I ep, .slice A mm a,I lp, .slice R n r, .slice (some ⟨b,off,none⟩) (k+1) cp] 220);clear hc hcl hs hl e0 hn hmm mJ hlp hdd hky hcb;go_enter Tryz.func125,Tryz.ntmps125;go_wp2_with fail;generalize w.alloc (.cells #[I ep, .slice A mm a,I lp, .slice R n r, .slice (some ⟨b,off,none⟩) (k+1) cp] 220)=W0 at HV ⊢;have g0:W0.cell? ⟨b,off+k,none⟩=some (I dd):=(HV.out.up.cell (p:=⟨b,off+k,none⟩) hb).trans f;have v1:W0.cell? ⟨w.heap.size,4,none⟩=some (.slice (some ⟨b,off,none⟩) (k+1) cp):=HV.out.row.2 4;clear f;go_wp2_with fail;go_quiet (fail);go_wp2_with fail;go_ret2;exact ⟨rfl,ah HV.out.up (below_drewN' _ _)⟩
theorem Qd (c:Cal) (A R:Option Addr) (a r:Nat) (w:World) (hc:fJ c) (h:qj w w.heap.size A R c):Calls Tryz.prog 108 #[.agg (aI c A a R r)] w (Gives (.tuple #[I (I8 c:Int),I (Ic c),I 0]) w):=by
 have HOP:=ae (fun (W:World) (hb:Below w.heap.size w W)=>LY c A R a r W hc (h.grow hb));have qX:=ae (fun (S:Option Addr) (k cp:Nat) (ss:List Int) (W:World)=>cycleG c A R S a r k cp ss W hc);unfold OpnG at HOP;obtain ⟨yy,hyy⟩:∃y,I8 c=y:=⟨_,rfl⟩;obtain ⟨dd,hdd⟩:∃d,Ic c=d:=⟨_,rfl⟩;rw [hyy,hdd] at HOP qX ⊢;obtain ⟨n,hn⟩:∃n,c.rules.length=n:=⟨_,rfl⟩;obtain ⟨mm,hmm⟩:∃n,c.au.length=n:=⟨_,rfl⟩;obtain ⟨ep,mJ⟩:∃n,c.bn=n:=⟨_,rfl⟩;obtain ⟨lp,hlp⟩:∃n,c.dA=n:=⟨_,rfl⟩;have e1:aI c A a R r= #[I ep, .slice A mm a,I lp, .slice R n r]:=by rw [<-hn,<-hmm,<-mJ,<-hlp];rfl
 have e2:∀S,jR c A a R r S= #[I ep, .slice A mm a,I lp, .slice R n r,S]:=fun S=>by rw [<-hn,<-hmm,<-mJ,<-hlp];rfl
 simp only [e1,e2] at HOP qX ⊢;have HV:=ae (jD.start w #[I ep, .slice A mm a,I lp, .slice R n r] 65);clear hc h hn hmm mJ hlp e1 e2 hyy hdd;go_enter Tryz.func108,Tryz.ntmps108;go_wp2_with fail;refine (HOP.out _ HV.out.up).mono ?_;rintro e w1 ⟨S,k,cp,ss,rfl,hk,hl,hs,hI,hkc,hb1⟩;have oP:=ae (HV.out.grow hb1);have HK:=ae hk;have HL:=ae hl;have HS:=ae hs;have HII:=ae hI;have HKC:=ae hkc;clear hb1 HV hk hl hs hI hkc;have hone:(#[I ep, .slice A mm a,I lp, .slice R n r, .slice S k cp]:Array Value).all (·.oneCell')=true:=by simp [Value.oneCell']
 go_wp2_with (first
  |((with_reducible refine aZ 220 ?_);refine aG rfl 220 rfl #[I 0, .slice none 0 0,I 0, .slice none 0 0, .slice none 0 0] (by kernel_rfl) ?_)
  |((with_reducible refine bY 220 ?_);go_must (refine wpList_store_row rfl _ _ _ rfl w1.heap.size #[I ep, .slice A mm a,I lp, .slice R n r, .slice S k cp] rfl rfl 220 #[I 0, .slice none 0 0,I 0, .slice none 0 0, .slice none 0 0] (heap_alloc_last w1 _) (by kernel_rfl) rfl hone ?_))
  |((with_reducible refine dY 220 ?_);go_must (refine aP rfl _ _ rfl w1.heap.size rfl #[I ep, .slice A mm a,I lp, .slice R n r, .slice S k cp] (AV.qy (AV.new w1 #[I 0, .slice none 0 0,I 0, .slice none 0 0, .slice none 0 0] 220) #[I ep, .slice A mm a,I lp, .slice R n r, .slice S k cp]).jw _ Tryz.underlying220 rfl (by kernel_rfl) ?_)))
 have hb2:Below w1.heap.size w1 ((w1.alloc (.cells #[I 0, .slice none 0 0,I 0, .slice none 0 0, .slice none 0 0] 220)).setRow w1.heap.size #[I ep, .slice A mm a,I lp, .slice R n r, .slice S k cp]):=aB (ag w1 _) (Nat.le_refl _) _;generalize (w1.alloc (.cells #[I 0, .slice none 0 0,I 0, .slice none 0 0, .slice none 0 0] 220)).setRow w1.heap.size #[I ep, .slice A mm a,I lp, .slice R n r, .slice S k cp]=W2 at hb2 ⊢;have nD:=ae (oP.out.grow hb2);have HI2:=ae ((HII.out.keep hb2).more hb2.size);clear hb2;refine (qX.out S k cp ss W2 HK.out HL.out HS.out HI2.out HKC.out).mono ?_;rintro e w3 ⟨rfl,hb3⟩;have tY:=ae (nD.out.grow hb3);clear hb3;go_wp2_with fail
 go_ret3
 exact ⟨rfl,tY.out.up⟩
def Qe (wd wk first m:Int):Int×Bool:=
 if wk=5 then (first+m - 1 - (first+m - 1 - wd)%7,decide (first<=first+m - 1 - (first+m - 1 - wd)%7))
 else (first+(wd - first)%7+7*(wk - 1),decide (first+(wd - first)%7+7*(wk - 1)<first+m))
end Go.Proofs.YtbaehbbonkljpaaGreatDoor
