/- The texts Ne, in this order. -/
import Derived.Test.YtdibbemgpikgjaaGreatZ00
import Derived.Test.YtdibbemgpikgjaaGreatZ12
import Derived.Test.YtdibbemgpikgjaaGreatZ18
set_option maxRecDepth 10000
set_option maxHeartbeats 8000000
namespace Go.Proofs.YtdibbemgpikgjaaGreat
open Go Go.RowKit
structure qY (w:World) (cc:List Value) (vb k c:Nat) (A:Option Addr) (ss:List Int) (W:World):Prop where
 lo:Below w.heap.size w W
 it:AV w.heap.size 47 cc.toArray W
 r:AV (w.heap.size+1) 198 #[I 0, .slice none 0 0,I 0, .slice none 0 0, .slice none 0 0] W
 ge:w.heap.size+2≤vb
 var:AV vb 198 (cc++ [Value.slice A k c]).toArray W
 own:W.ownsRow (w.heap.size+2) 3 1 (.slice A k c) k (ss.map I)
 ne:some vb≠(Value.slice A k c).ownBlock
theorem qY.make {w W:World} {ep lp:Int} {A R:Option Addr} {a n r N vb sb:Nat} (hL:Below w.heap.size w W) (hI:AV w.heap.size 47 #[I ep, .slice A 2 a,I lp, .slice R n r] W) (hR:AV (w.heap.size+1) (198) #[I 0, .slice none 0 0,I 0, .slice none 0 0, .slice none 0 0] W) (hV:AV vb (198) #[I 0, .slice none 0 0,I 0, .slice none 0 0, .slice none 0 0] W)
  (hQ:W.heap[sb]? =some (.cells (Array.replicate (N+1) (I 0)) 3 (0,0))) (hvs:vb≠sb) (hvb:w.heap.size+2≤vb) (hsb:w.heap.size+2≤sb) (hN:1≤N) (hN2:N≤2):
  qY w [I ep, .slice A 2 a,I lp, .slice R n r] vb 1 (N+1) (some ⟨sb,0,none⟩) [0] (W.setRow vb #[I ep, .slice A 2 a,I lp, .slice R n r, .slice (some ⟨sb,0,none⟩) 1 (N+1)]):=by
 refine ⟨aC hL (by omega) _,hI.qJ (by omega) _,hR.qJ (by omega) _,hvb,hV.lq _,⟨rfl, .inr ⟨sb,N+1,Array.replicate (N+1) (I 0),rfl,hsb,(setRow_other _ _ sb _ (Ne.symm hvs)).trans hQ,by omega,?_,by simp,?_⟩⟩,?_⟩
 ·unfold maxLen;omega
 ·rw [Array.toList_replicate,List.replicate_succ];rfl
 ·intro e;have:vb=sb:=by simpa [Value.ownBlock] using e
  exact hvs this
section
variable {w W W':World} {cc:List Value} {vb k c:Nat} {A:Option Addr} {ss:List Int}
theorem qY.grow (h:qY w cc vb k c A ss W) (hb:Below W.heap.size W W'):qY w cc vb k c A ss W':=⟨ah h.lo hb,h.it.below hb,h.r.below hb,h.ge,h.var.below hb,own_below h.own hb,h.ne⟩
theorem qY.drew (h:qY w cc vb k c A ss W):qY w cc vb k c A ss W.drew:=h.grow ((Below.refl _ W).drew)
theorem qY.there (h:qY w cc vb (k+1) c A ss W):∃g,A=some ⟨g,0,none⟩∧w.heap.size+2≤g∧g<W.heap.size∧k+1≤c∧∀(j:Nat) (s:Int),ss[j]? =some s→W.cell? ⟨g,j,none⟩=some (I s):=by
 rcases h.own.2 with ⟨_,hn⟩|⟨g,cap,cur,hv,hg,hh,hc,_,_,ht⟩
 ·omega
 ·injection hv with h1 h2 h3;refine ⟨g,h1,hg,(aZ.1 hh).1,by omega,fun j s hs=>?_⟩;rw [cell_of_row W g j _ _ _ hh,←Array.getElem?_toList];have h4:(ss.map I)[j]? =some (I s):=by rw [List.getElem?_map,hs];rfl
  rw [←ht] at h4;rw [List.getElem?_take] at h4;split at h4
  ·exact h4
  ·cases h4
theorem qY.add {Wb w6:World} {gg cap:Nat} {s:Int} (h:qY w cc vb k c A ss W) (h4:cc.length=4) (EN:Wb=W.alloc (.cells #[I s] 3))
  (hown:w6.ownsRow (w.heap.size+2) 3 1 (.slice (Option.some ⟨gg,0,none⟩) (k+1) cap) (k+1) (ss.map I++ [I s])) (hg:Wb.grownBy w6 (Value.slice A k c).ownBlock) (hat:(Value.slice A k c).ownBlock=Option.some gg∨gg=Wb.heap.size):
  qY w cc vb (k+1) cap (Option.some ⟨gg,0,none⟩) (ss++ [s]) (w6.setCell ⟨vb,4,none⟩ (.slice (Option.some ⟨gg,0,none⟩) (k+1) cap)):=by
 have hsb:Wb.heap.size=W.heap.size+1:=by rw [EN];simp
 have hlt:=h.var.lt;have hle:=h.lo.size;have hrl:=h.r.lt;have hbl:∀b,b<W.heap.size→Option.some b≠(Value.slice A k c).ownBlock→w6.heap[b]? =W.heap[b]? :=fun b hb hn=>
  (hg.block b (by omega) hn).trans (by rw [EN];exact Below.heap_alloc W _ b hb)
 have hlow:∀b,b<w.heap.size+2→Option.some b≠(Value.slice A k c).ownBlock:=dV h.own;have hset:∀b,b≠vb→(w6.setCell ⟨vb,4,none⟩ (.slice (Option.some ⟨gg,0,none⟩) (k+1) cap)).heap[b]? =w6.heap[b]? :=fun b hb=>heap_setCell_other w6 ⟨vb,4,none⟩ b _ hb;have hge:=h.ge;have hne:vb≠gg:=fun e=>by
  rcases hat with e3|e3
  ·exact h.ne (by rw [e];exact e3.symm)
  ·omega
 have h1:Below w.heap.size w Wb:=by rw [EN];exact ah h.lo (ag W _)
 have hob:Wb.ownsRow (w.heap.size+2) 3 1 (.slice A k c) k (ss.map I):=by rw [EN];exact own_below h.own (ag W _)
 have hv6:AV vb (198) (cc++ [Value.slice A k c]).toArray w6:=⟨(hbl _ hlt h.ne).trans h.var.var⟩;have hup:Below w.heap.size w w6:=di h1 (aX hob (by omega)) h1.size hg;refine ⟨hup.setCell (p:=⟨vb,4,none⟩) (by show w.heap.size≤vb;omega) _,⟨(hset _ (by omega)).trans ((hbl _ (by omega) (hlow _ (by omega))).trans h.it.var)⟩,⟨(hset _ (by omega)).trans ((hbl _ (by omega) (hlow _ (by omega))).trans h.r.var)⟩,hge,?_,?_,fun e=>?_⟩
 ·have h2:=hv6.put 4 (.slice (Option.some ⟨gg,0,none⟩) (k+1) cap);have e:(cc++ [Value.slice A k c]).toArray.setIfInBounds 4 (.slice (Option.some ⟨gg,0,none⟩) (k+1) cap)=(cc++ [Value.slice (Option.some ⟨gg,0,none⟩) (k+1) cap]).toArray:=by
   match cc,h4 with
   | [a,b,c,d],_=>rfl
  rw [e] at h2;exact h2
 ·rw [List.map_append];exact dA (p:=⟨vb,4,none⟩) hown (fun e=>hne (by simpa [Value.ownBlock] using e))
 ·have:vb=gg:=by simpa [Value.ownBlock] using e
  exact hne this
end
section
variable {P:Program} {ops:Array Oper} {o:Oper} {a:Act} {w:World} {K:Act→World→Prop} {Q:Exit→Act→World→Prop} {E:Prop}
theorem iq (hgd:o.guard=none) (ty:TypeId) (x:Operand) (ho:o.op= .load ty x) (b off:Nat) (hx:a.eval x= .pointer (some ⟨b,off,none⟩)) (cs:List Value) (d:TypeDesc) (hr:w.rangeAt b off cs)
  (hu:P.underlying ty=some d) (hd:d.isRow=true) (hi:(P.info? ty).map (·.size)=some cs.length) (h:K (a.put o.dst (.agg cs.toArray)) w):if Region.wanted o (yielded ops a.tmps)=true then Oper.wp P o a w K Q else E:=by
 have hw:Region.wanted o (yielded ops a.tmps)=true:=by simp [Region.wanted,hgd]
 rw [if_pos hw];exact wp_load_mid ty x ho b off hx cs d hr hu hd hi h
end
def mF (c:Cal):Nat→Int
 |0=>0
 |k+1=>mF c k+dK c ((k:Int)+1)
theorem Ox (c:Cal) (k:Nat) (hc:gG c) (hk:k≤2):0≤mF c k∧mF c k≤1000:=by
 have h1:=jF c 1 hc;have h2:=jF c 2 hc
 match k,hk with
 |0,_=>exact ⟨Int.le_refl _,by show (0:Int)≤1000;decide⟩
 |1,_=>exact ⟨by show 0≤0+dK c (0+1);rw [show (0:Int)+1=1 from rfl];omega,by show 0+dK c (0+1)≤1000;rw [show (0:Int)+1=1 from rfl];omega⟩
 |2,_=>exact ⟨by show 0≤0+dK c (0+1)+dK c (1+1);rw [show (0:Int)+1=1 from rfl,show (1:Int)+1=2 from rfl];omega,by show 0+dK c (0+1)+dK c (1+1)≤1000;rw [show (0:Int)+1=1 from rfl,show (1:Int)+1=2 from rfl];omega⟩
theorem Kt (c:Cal) (N:Nat) (hc:gG c) (hN:qE c=(N:Int)):mF c N=qC c:=by
 obtain ⟨ep,m0,m1,lp,rs,rfl,_,_,_,_,hrs⟩:=hc.form;rcases hrs with rfl|⟨q,yy,rfl,_⟩
 ·have:N=1:=by have h:(1:Int)=N:=hN;omega
  subst this;show 0+dK _ (0+1)=dK _ 1;rw [Int.zero_add,Int.zero_add]
 ·have:N=2:=by have h:(2:Int)=N:=hN;omega
  subst this;show 0+dK _ (0+1)+dK _ (1+1)=dK _ 1+dK _ 2;rw [Int.zero_add,Int.zero_add];rfl
theorem memo {G:Prop} {T:World→Prop} {C:World→Prop} (f:(∀W,C W→T W)→G) (h:∀W,C W→T W):G:=f h
theorem Og (n:Nat) (hn:n≤1000) (W:World):(Instr.makeSlice 44 (.int .i64 1) (.int .i64 ((n:Int)+1))).run Tryz.prog W= .ok (.slice (some ⟨W.heap.size,0,none⟩) 1 (n+1)) (W.alloc (.cells (Array.replicate (n+1) (I 0)) 3)):=by
 obtain ⟨i0,hi,hz0,hz1,hz2⟩:=info_parts rX;have h:=run_makeSlice (P:=Tryz.prog) (w:=W) 44 3 i0 (.int .i64 0) Tryz.underlying44 hi hz0 .i64 .i64 1 ((n:Int)+1) (by omega) (by omega) (by rw [hz1];omega) (by rw [hz2];omega) (by omega);rw [hz1] at h;have e:madeCells (Value.int .i64 0).cells ((((n:Int)+1).toNat)*1)=Array.replicate (n+1) (I 0):=by
  apply Array.ext';simp [madeCells,Value.cells,Nat.mod_one];apply List.ext_getElem
  ·simp
  ·intro j h1 h2;simp
 rw [e] at h;rw [h];congr 2
def OpnP (w:World) (c:Cal) (A:Option Addr) (a:Nat) (R:Option Addr) (r:Nat) (e:Ending) (w':World):Prop:=
 ∃(S:Option Addr) (k cp:Nat) (ss:List Int),e= .returned (.tuple #[.agg (jE c A a R r (.slice S k cp)), .bool true])∧(k:Int)=qE c+1∧ss.length=k∧ss[k - 1]? =some (qC c)∧fE w' w'.heap.size S ss∧k≤cp∧Below w.heap.size w w'
theorem NV (c:Cal) (A R:Option Addr) (a r:Nat) (w:World) (hc:gG c) (h:nN w w.heap.size A R c):Calls Tryz.prog 98 #[.agg (aF c A a R r)] w (OpnP w c A a R r):=by
 have je:=ae (fun (W:World) (hb:Below w.heap.size w W)=>nP c A R a r W hc (h.grow hb));obtain ⟨n,hn⟩:∃n,c.rules.length=n:=⟨_,rfl⟩;have Gh:=ae (fun (W:World) (hb:Below w.heap.size w W)=>Hw c R r n W hc ((h.rules.keep hb).more hb.size) hn);have Ci:=ae (fun (y:Int) (S:Value) (W:World) (hb:Below w.heap.size w W)=>Xk c A R a r S y W hc (h.grow hb));have WA:=ae (fun (y:Int)=>jF c y hc);obtain ⟨N,hN,hN1,hN2⟩:∃N:Nat,qE c=(N:Int)∧1≤N∧N≤2:=by
  unfold qE;split
  ·exact ⟨1,rfl,by omega,by omega⟩
  ·exact ⟨2,rfl,by omega,by omega⟩
 rw [hN] at Gh;have HST:Hid (mF c N=qC c):=ae (Kt c N hc hN);have Dp:=ae hN;have IZ:Hid (∀k≤N,0≤mF c k∧mF c k≤1000):=ae (fun k hk=>Ox c k hc (by omega));have hmk:=Og N (by omega);obtain ⟨i0,hi,hq0,hq1,hq2⟩:=info_parts rX;have HI:=ae hi;have zD:=ae hq0;have oG:=ae hq1;have lL:=ae hq2;clear hi hq0 hq1 hq2;obtain ⟨ep,m0,m1,lp,rs,rfl,b1,b2,b3,b4,hrs⟩:=hc.form;simp only at hn;have e1:aF ⟨ep,[m0,m1],lp,rs⟩ A a R r= #[I ep, .slice A 2 a,I lp, .slice R n r]:=by rw [←hn];rfl
 have e2:∀S,jE ⟨ep,[m0,m1],lp,rs⟩ A a R r S= #[I ep, .slice A 2 a,I lp, .slice R n r,S]:=fun S=>by rw [←hn];rfl
 rw [e1] at je ⊢;have HV:=ae (AV.new w #[I ep, .slice A 2 a,I lp, .slice R n r] 47);go_enter Tryz.func98,Tryz.ntmps98;go_wp2_with fail;have HR:=ae (AV.new (w.alloc (.cells #[I ep, .slice A 2 a,I lp, .slice R n r] 47)) #[I 0, .slice none 0 0,I 0, .slice none 0 0, .slice none 0 0] 198);have HI0:=ae (HV.out.below (ag _ (.cells #[I 0, .slice none 0 0,I 0, .slice none 0 0, .slice none 0 0] 198)));have HL0:=ae (ah (ag w (.cells #[I ep, .slice A 2 a,I lp, .slice R n r] 47)) (ag _ (.cells #[I 0, .slice none 0 0,I 0, .slice none 0 0, .slice none 0 0] 198)));rw [nY w] at HR;generalize (w.alloc (.cells #[I ep, .slice A 2 a,I lp, .slice R n r] 47)).alloc (.cells #[I 0, .slice none 0 0,I 0, .slice none 0 0, .slice none 0 0] 198)=W0 at HR HI0 HL0 ⊢;refine (je.out _ HL0.out).mono ?_;rintro e w1 ⟨rfl,hb1⟩;have HR1:=ae (HR.out.below hb1);have HI1:=ae (HI0.out.below hb1);have Nu:=ae (ah HL0.out hb1);have v3:=HI1.out.cell 3;clear hb1 HR HI0 HL0 HV je;go_wp2_with fail;refine (Gh.out _ Nu.out).mono ?_;rintro e w2 ⟨rfl,hb2⟩;have HR2:=ae (HR1.out.below hb2);have HI2:=ae (HI1.out.below hb2);have HL2:=ae (ah Nu.out hb2);clear hb2 HR1 HI1 Nu Gh v3;go_upto_region 4 with fail;have hw1:IntKind.i64.wrap ((N:Int)+1)=(N:Int)+1:=by rw [IntKind.wrap_i64];omega
 go_cut [6] (fun p wx=>∃vb sb,p= .pointer (some ⟨vb,0,none⟩)∧qY w [I ep, .slice A 2 a,I lp, .slice R n r] vb 1 (N+1) (some ⟨sb,0,none⟩) [0] wx)
 case first=>
  have hS0:oJ w2.drew w.heap.size #[I ep, .slice A 2 a,I lp, .slice R n r]:=HI2.out.drew.jK;refine wp_region_held_drew (S:=fun W=>oJ W w.heap.size #[I ep, .slice A 2 a,I lp, .slice R n r]) (by kernel_rfl) hS0 (fun _=>?_);have HID:=ae HI2.out.drew;have Tc:=ae HR2.out.drew;have HLD:Hid (Below w.heap.size w w2.drew):=ae (ah HL2.out ((Below.refl _ w2).drew));generalize w2.drew=V at hS0 HID Tc HLD ⊢;clear HI2 HR2 HL2;have hVr:=Tc.out.lt;refine mW 0 ( .agg #[I ep, .slice A 2 a,I lp, .slice R n r]) 18 rfl rfl hS0 (yieldsIf_load_mid rfl 47 _ rfl w.heap.size (0) rfl [I ep, .slice A 2 a,I lp, .slice R n r] _ (fun _ h=>fun j v hv=>by rw [Nat.zero_add,h.2 j];simpa using hv) Tryz.underlying47 rfl (by kernel_rfl)) ?_;refine ax ?_;refine aK 1 (I (N:Int)) 19 hS0 (fun w' hSw=>?_) ?_
  ·clear hSw
   first|(go_simp;done)|(go_simp;with_reducible rfl)
  refine ax ?_;refine aK 2 (I ((N:Int)+1)) 20 hS0 (fun w' hSw=>?_) ?_
  ·clear hSw
   first|(go_simp;done)|(go_simp;with_reducible rfl)
  refine ax ?_;refine lJ 3 5 (fun K hK=>?_) (fun K hK=>?_)
  ·go_simp;have HI3:=ae (HID.out.below (ag V (.cells (Array.replicate (N+1) (I 0)) 3)));have HR3:=ae (Tc.out.below (ag V (.cells (Array.replicate (N+1) (I 0)) 3)));have PD:=ae (ah HLD.out (ag V (.cells (Array.replicate (N+1) (I 0)) 3)));have zZ:=ae (heap_alloc_last V (.cells (Array.replicate (N+1) (I 0)) 3));have hS3:oJ (V.alloc (.cells (Array.replicate (N+1) (I 0)) 3)) w.heap.size #[I ep, .slice A 2 a,I lp, .slice R n r]:=HI3.out.jK;refine hK.out _ _ hS3 (fun _=>?_);clear hK K;refine ax ?_;generalize (V.alloc (.cells (Array.replicate (N+1) (I 0)) 3))=V3 at HI3 HR3 PD zZ hS3 ⊢;obtain ⟨sb,hsb0⟩:∃b,V.heap.size=b:=⟨_,rfl⟩;rw [hsb0] at zZ ⊢;have hsb:w.heap.size+2≤sb:=by omega
   clear hsb0;refine mW 4 ( .agg #[I ep, .slice A 2 a,I lp, .slice R n r, .slice (some ⟨sb,0,none⟩) 1 (N+1)]) 22 rfl rfl hS3 (bV rfl 198 _ rfl _ (by kernel_rfl)) ?_;refine ax ?_;refine bI 5 (fun K hK=>?_);refine fQ (o:=⟨some 6, .alloc 198,_,_,_,none⟩) rfl 198 rfl #[I 0, .slice none 0 0,I 0, .slice none 0 0, .slice none 0 0] (by kernel_rfl) ?_;have OY:=ae (HI3.out.below (ag V3 (.cells #[I 0, .slice none 0 0,I 0, .slice none 0 0, .slice none 0 0] 198)));have oN:=ae (HR3.out.below (ag V3 (.cells #[I 0, .slice none 0 0,I 0, .slice none 0 0, .slice none 0 0] 198)));have Wh:=ae (ah PD.out (ag V3 (.cells #[I 0, .slice none 0 0,I 0, .slice none 0 0, .slice none 0 0] 198)));have HV5:=ae (AV.new V3 #[I 0, .slice none 0 0,I 0, .slice none 0 0, .slice none 0 0] 198);have hS5:oJ (V3.alloc (.cells #[I 0, .slice none 0 0,I 0, .slice none 0 0, .slice none 0 0] 198)) w.heap.size #[I ep, .slice A 2 a,I lp, .slice R n r]:=OY.out.jK;have PM:=ae ((Below.heap_alloc V3 (.cells #[I 0, .slice none 0 0,I 0, .slice none 0 0, .slice none 0 0] 198) sb (aZ.1 zZ.out).1).trans zZ.out);have hvs:V3.heap.size≠sb:=by have:=(aZ.1 zZ.out).1;omega
   have hvb:w.heap.size+2≤V3.heap.size:=by have:=(aZ.1 zZ.out).1;omega
   refine hK.out _ _ hS5 (fun _=>?_);clear hK K;refine ax ?_;generalize V3.alloc (.cells #[I 0, .slice none 0 0,I 0, .slice none 0 0, .slice none 0 0] 198)=V5 at OY oN Wh PM HV5 hS5 ⊢;generalize V3.heap.size=vb at HV5 hvs hvb ⊢;refine bI 6 (fun K hK=>?_);refine jB (o:=⟨none, .store 198 (.tmp 6) (.tmp 22),_,_,_,none⟩) rfl 198 _ _ rfl vb #[I ep, .slice A 2 a,I lp, .slice R n r, .slice (some ⟨sb,0,none⟩) 1 (N+1)] rfl rfl 198 #[I 0, .slice none 0 0,I 0, .slice none 0 0, .slice none 0 0] HV5.out.var (by kernel_rfl) rfl (by kernel_rfl) ?_;have HF:=ae (qY.make Wh.out OY.out oN.out HV5.out PM.out hvs hvb hsb hN1 hN2);have Ph:oJ (V5.setRow vb #[I ep, .slice A 2 a,I lp, .slice R n r, .slice (some ⟨sb,0,none⟩) 1 (N+1)]) w.heap.size #[I ep, .slice A 2 a,I lp, .slice R n r]:=HF.out.it.jK;refine hK.out _ _ Ph (fun _=>?_);clear hK K;try simp only [Act.put]
   refine wpAnyH_done (by kernel_rfl) ?_ _;go_wp2_with fail;go_meet;exact ⟨_,_,rfl,HF.out⟩
  ·refine fQ (o:=⟨some 6, .alloc 198,_,_,_,none⟩) rfl 198 rfl #[I 0, .slice none 0 0,I 0, .slice none 0 0, .slice none 0 0] (by kernel_rfl) ?_;have OY:=ae (HID.out.below (ag V (.cells #[I 0, .slice none 0 0,I 0, .slice none 0 0, .slice none 0 0] 198)));have oN:=ae (Tc.out.below (ag V (.cells #[I 0, .slice none 0 0,I 0, .slice none 0 0, .slice none 0 0] 198)));have Wh:=ae (ah HLD.out (ag V (.cells #[I 0, .slice none 0 0,I 0, .slice none 0 0, .slice none 0 0] 198)));have HV5:=ae (AV.new V #[I 0, .slice none 0 0,I 0, .slice none 0 0, .slice none 0 0] 198);have hS5:oJ (V.alloc (.cells #[I 0, .slice none 0 0,I 0, .slice none 0 0, .slice none 0 0] 198)) w.heap.size #[I ep, .slice A 2 a,I lp, .slice R n r]:=OY.out.jK;refine hK.out _ _ hS5 (fun _=>?_);clear hK K;refine ax ?_;generalize (V.alloc (.cells #[I 0, .slice none 0 0,I 0, .slice none 0 0, .slice none 0 0] 198))=V5 at OY oN Wh HV5 hS5 ⊢;obtain ⟨vb,hvb0⟩:∃b,V.heap.size=b:=⟨_,rfl⟩;rw [hvb0] at HV5 ⊢;have hvb:w.heap.size+2≤vb:=by omega
   clear hvb0;refine bI 3 (fun K hK=>?_);go_simp;have HI3:=ae (OY.out.below (ag V5 (.cells (Array.replicate (N+1) (I 0)) 3)));have HR3:=ae (oN.out.below (ag V5 (.cells (Array.replicate (N+1) (I 0)) 3)));have PD:=ae (ah Wh.out (ag V5 (.cells (Array.replicate (N+1) (I 0)) 3)));have zZ:=ae (heap_alloc_last V5 (.cells (Array.replicate (N+1) (I 0)) 3));have hS3:oJ (V5.alloc (.cells (Array.replicate (N+1) (I 0)) 3)) w.heap.size #[I ep, .slice A 2 a,I lp, .slice R n r]:=HI3.out.jK;have vH:=ae (HV5.out.below (ag V5 (.cells (Array.replicate (N+1) (I 0)) 3)));have hvs:vb≠V5.heap.size:=by have:=HV5.out.lt;omega
   have hsb:w.heap.size+2≤V5.heap.size:=by have:=HV5.out.lt;omega
   refine hK.out _ _ hS3 (fun _=>?_);clear hK K;refine ax ?_;generalize V5.alloc (.cells (Array.replicate (N+1) (I 0)) 3)=V3 at HI3 HR3 PD zZ vH hS3 ⊢;generalize V5.heap.size=sb at zZ hvs hsb ⊢;refine mW 4 ( .agg #[I ep, .slice A 2 a,I lp, .slice R n r, .slice (some ⟨sb,0,none⟩) 1 (N+1)]) 22 rfl rfl hS3 (bV rfl 198 _ rfl _ (by kernel_rfl)) ?_;refine ax ?_;refine bI 6 (fun K hK=>?_);refine jB (o:=⟨none, .store 198 (.tmp 6) (.tmp 22),_,_,_,none⟩) rfl 198 _ _ rfl vb #[I ep, .slice A 2 a,I lp, .slice R n r, .slice (some ⟨sb,0,none⟩) 1 (N+1)] rfl rfl 198 #[I 0, .slice none 0 0,I 0, .slice none 0 0, .slice none 0 0] vH.out.var (by kernel_rfl) rfl (by kernel_rfl) ?_;have HF:=ae (qY.make PD.out HI3.out HR3.out vH.out zZ.out hvs hvb hsb hN1 hN2);have Ph:oJ (V3.setRow vb #[I ep, .slice A 2 a,I lp, .slice R n r, .slice (some ⟨sb,0,none⟩) 1 (N+1)]) w.heap.size #[I ep, .slice A 2 a,I lp, .slice R n r]:=HF.out.it.jK;refine hK.out _ _ Ph (fun _=>?_);clear hK K;try simp only [Act.put]
   refine wpAnyH_done (by kernel_rfl) ?_ _;go_wp2_with fail;go_meet;exact ⟨_,_,rfl,HF.out⟩
 case rest=>
  obtain ⟨vb,sb,rfl,ha⟩:=hcut;have HA:=ae ha;clear ha HI2 HR2 HL2 hmk hw1 hc h hrs;go_wp2_with fail
  go_loopw [24] (fun i wr=>∃(k c:Nat) (S:Option Addr) (ss:List Int),k≤N∧i=I (k:Nat)∧ss.length=k+1∧ss[k]? =some (mF ⟨ep,[m0,m1],lp,rs⟩ k)∧qY w [I ep, .slice A 2 a,I lp, .slice R n r] vb (k+1) c S ss wr) (fun i _=>N - (intOf i).toNat)
  case atStart=>exact ⟨0,N+1,_,[0],Nat.zero_le _,rfl,rfl,rfl,HA.out⟩
  case round=>
   clear HA;obtain ⟨k,c,S,ss,hkN,rfl,hsl,hsk,hw⟩:=hrel;have HX0:=ae hw;have HSL:=ae hsl;have Wn:=ae hsk;clear hw hsl hsk;by_cases hlt:k<N
   ·have i1:(k:Int)<(N:Int):=by omega
    obtain ⟨g,rfl,hg,hgw,hkc,hgc⟩:=HX0.out.there;obtain ⟨s,hs⟩:∃s,mF ⟨ep,[m0,m1],lp,rs⟩ k=s:=⟨_,rfl⟩;obtain ⟨yk,hyk⟩:∃y,dK ⟨ep,[m0,m1],lp,rs⟩ ((k:Int)+1)=y:=⟨_,rfl⟩;have Ya:=ae (Ci.out ((k:Int)+1) (.slice (some ⟨g,0,none⟩) (k+1) c));have hyb:=WA.out ((k:Int)+1);have hsb:=IZ.out k hkN;rw [hs] at Wn hsb;rw [hyk,e2] at Ya;rw [hyk] at hyb;have Ll:Hid (mF ⟨ep,[m0,m1],lp,rs⟩ (k+1)=s+yk):=ae (by rw [←hs,←hyk];rfl);clear hs hyk hgc;have ww:IntKind.i64.wrap (s+yk)=s+yk:=by rw [IntKind.wrap_i64];omega
    have hwk:IntKind.i64.wrap ((k:Int)+1)=(k:Int)+1:=by rw [IntKind.wrap_i64];omega
    have j0:(0:Int)≤(k:Int):=by omega
    have j1:(k:Int)<(k:Int)+1:=by omega
    go_upto_block 1 with fail
    go_cut [7] (fun p wx=>p=I (k:Nat)∧∃c2 S2,qY w [I ep, .slice A 2 a,I lp, .slice R n r] vb (k+1+1) c2 S2 (ss++ [s+yk]) wx)
    case first=>
     go_upto_region 8 with fail;have rf:=ae HX0.out.drew;refine wp_region_held_drew (S:=fun _=>True) (by kernel_rfl) trivial (fun _=>?_);generalize wr.drew=V0 at rf ⊢;clear HX0 hgw;refine aK 0 (.pointer (some ⟨vb,4,none⟩)) 27 trivial (fun w' hSw=>?_) ?_
     ·clear hSw
      first|(go_simp;done)|(go_simp;with_reducible rfl)
     refine ax ?_;refine aK 2 (.pointer (some ⟨vb,4,none⟩)) 29 trivial (fun w' hSw=>?_) ?_
     ·clear hSw
      first|(go_simp;done)|(go_simp;with_reducible rfl)
     refine ax ?_;refine aK 4 (I (k:Int)) 31 trivial (fun w' hSw=>?_) ?_
     ·clear hSw
      first|(go_simp;done)|(go_simp;with_reducible rfl)
     refine ax ?_;refine aK 8 (I (k:Int)) 35 trivial (fun w' hSw=>?_) ?_
     ·clear hSw
      first|(go_simp;done)|(go_simp;with_reducible rfl)
     refine ax ?_;refine aK 9 (I ((k:Int)+1)) 36 trivial (fun w' hSw=>?_) ?_
     ·clear hSw
      first|(go_simp;done)|(go_simp;with_reducible rfl)
     refine ax ?_;apply memo (C:=(fun W=>qY w [I ep, .slice A 2 a,I lp, .slice R n r] vb (k+1) c (some ⟨g,0,none⟩) ss W));intro rH;apply memo (C:=(fun W=>qY w [I ep, .slice A 2 a,I lp, .slice R n r] vb (k+1) c (some ⟨g,0,none⟩) ss W));intro rG;apply memo (C:=(fun W=>qY w [I ep, .slice A 2 a,I lp, .slice R n r] vb (k+1) c (some ⟨g,0,none⟩) ss W));intro Ag;apply memo (C:=(fun W=>qY w [I ep, .slice A 2 a,I lp, .slice R n r] vb (k+1) c (some ⟨g,0,none⟩) ss W));intro PW;apply memo (C:=(fun W=>qY w [I ep, .slice A 2 a,I lp, .slice R n r] vb (k+1) c (some ⟨g,0,none⟩) ss W));intro xu;apply memo (C:=(fun W=>qY w [I ep, .slice A 2 a,I lp, .slice R n r] vb (k+1) c (some ⟨g,0,none⟩) ss W));intro Jp;apply memo (C:=(fun W=>qY w [I ep, .slice A 2 a,I lp, .slice R n r] vb (k+1) c (some ⟨g,0,none⟩) ss W));intro M1_3;apply memo (C:=(fun W=>qY w [I ep, .slice A 2 a,I lp, .slice R n r] vb (k+1) c (some ⟨g,0,none⟩) ss W));intro LC;apply memo (C:=(fun W=>qY w [I ep, .slice A 2 a,I lp, .slice R n r] vb (k+1) c (some ⟨g,0,none⟩) ss W));intro M1_7;apply memo (C:=(fun W=>qY w [I ep, .slice A 2 a,I lp, .slice R n r] vb (k+1) c (some ⟨g,0,none⟩) ss W));intro M1;apply memo (C:=(fun W=>qY w [I ep, .slice A 2 a,I lp, .slice R n r] vb (k+1) c (some ⟨g,0,none⟩) ss W));intro Eu;apply memo (C:=(fun W=>qY w [I ep, .slice A 2 a,I lp, .slice R n r] vb (k+1) c (some ⟨g,0,none⟩) ss W));intro Dv;apply memo (C:=(fun W=>qY w [I ep, .slice A 2 a,I lp, .slice R n r] vb (k+1) c (some ⟨g,0,none⟩) ss W));intro PX;apply memo (C:=(fun W=>qY w [I ep, .slice A 2 a,I lp, .slice R n r] vb (k+1) c (some ⟨g,0,none⟩) ss W));intro M3_6;apply memo (C:=(fun W=>qY w [I ep, .slice A 2 a,I lp, .slice R n r] vb (k+1) c (some ⟨g,0,none⟩) ss W));intro LD;apply memo (C:=(fun W=>qY w [I ep, .slice A 2 a,I lp, .slice R n r] vb (k+1) c (some ⟨g,0,none⟩) ss W));intro M3_7;apply memo (C:=(fun W=>qY w [I ep, .slice A 2 a,I lp, .slice R n r] vb (k+1) c (some ⟨g,0,none⟩) ss W));intro M3;apply memo (C:=(fun W=>qY w [I ep, .slice A 2 a,I lp, .slice R n r] vb (k+1) c (some ⟨g,0,none⟩) ss W));intro M7_10;apply memo (C:=(fun W=>qY w [I ep, .slice A 2 a,I lp, .slice R n r] vb (k+1) c (some ⟨g,0,none⟩) ss W));intro M7;refine wpAnyH_ready (rs:= [1,3,7]) (by kernel_rfl) (by simp) ?_;refine AllReadyH.cons rfl (fun K hK=>?_) (AllReadyH.cons rfl (fun K hK=>?_) (AllReadyH.cons rfl (fun K hK=>?_) AllReadyH.nil))
     ·have c4:=rf.out.var.cell 4;go_simp;clear c4;refine hK.out _ _ trivial (fun _=>?_);clear hK K;refine ax ?_;exact M1 _ rf.out
     ·have c4:=rf.out.var.cell 4;go_simp;clear c4;refine hK.out _ _ trivial (fun _=>?_);clear hK K;refine ax ?_;refine aK 5 (.pointer (some ⟨g,k,none⟩)) 32 trivial (fun w' hSw=>?_) ?_
      ·clear hSw
       first|(go_simp;done)|(go_simp;with_reducible rfl)
      refine ax ?_;exact M3 _ rf.out
     ·refine iq (o:=⟨some 34, .load 198 (.tmp 6),_,_,_,none⟩) rfl 198 _ rfl vb 0 rfl [I ep, .slice A 2 a,I lp, .slice R n r,(.slice (some ⟨g,0,none⟩) (k+1) c)] _ (fun j v hv=>by rw [Nat.zero_add,rf.out.var.cell j];simpa using hv) Tryz.underlying198 rfl (by kernel_rfl) ?_;refine hK.out _ _ trivial (fun _=>?_);clear hK K;refine ax ?_;exact M7 _ rf.out
     ·intro V hV;have jd:=ae hV;clear hV;refine wpAnyH_ready (rs:= [1,3,10]) (by kernel_rfl) (by simp) ?_;refine AllReadyH.cons rfl (fun K hK=>?_) (AllReadyH.cons rfl (fun K hK=>?_) (AllReadyH.cons rfl (fun K hK=>?_) AllReadyH.nil))
      ·have c4:=jd.out.var.cell 4;go_simp;clear c4;refine hK.out _ _ trivial (fun _=>?_);clear hK K;refine ax ?_;exact M1_7 _ jd.out
      ·have c4:=jd.out.var.cell 4;go_simp;clear c4;refine hK.out _ _ trivial (fun _=>?_);clear hK K;refine ax ?_;refine aK 5 (.pointer (some ⟨g,k,none⟩)) 32 trivial (fun w' hSw=>?_) ?_
       ·clear hSw
        first|(go_simp;done)|(go_simp;with_reducible rfl)
       refine ax ?_;exact M3_7 _ jd.out
      ·go_simp;refine (Ya.out V jd.out.lo).mono ?_;rintro e W6 ⟨rfl,hb6⟩;have nU:=ae (jd.out.grow hb6);clear hb6;refine hK.out _ _ trivial (fun _=>?_);clear hK K;refine ax ?_;exact M7_10 _ nU.out
     ·intro V hV;have jd:=ae hV;clear hV;refine lJ 1 3 (fun K hK=>?_) (fun K hK=>?_)
      ·have c4:=jd.out.var.cell 4;go_simp;clear c4;refine hK.out _ _ trivial (fun _=>?_);clear hK K;refine ax ?_;exact LC _ jd.out
      ·have c4:=jd.out.var.cell 4;go_simp;clear c4;refine hK.out _ _ trivial (fun _=>?_);clear hK K;refine ax ?_;refine aK 5 (.pointer (some ⟨g,k,none⟩)) 32 trivial (fun w' hSw=>?_) ?_
       ·clear hSw
        first|(go_simp;done)|(go_simp;with_reducible rfl)
       refine ax ?_;exact LD _ jd.out
     ·intro V hV;have jd:=ae hV;clear hV;refine wpAnyH_ready (rs:= [1,6,7]) (by kernel_rfl) (by simp) ?_;refine AllReadyH.cons rfl (fun K hK=>?_) (AllReadyH.cons rfl (fun K hK=>?_) (AllReadyH.cons rfl (fun K hK=>?_) AllReadyH.nil))
      ·have c4:=jd.out.var.cell 4;go_simp;clear c4;refine hK.out _ _ trivial (fun _=>?_);clear hK K;refine ax ?_;exact M1_3 _ jd.out
      ·obtain ⟨_,e,_,_,_,hgc⟩:=jd.out.there;injection e with e;injection e with e;subst e;have cs:=hgc k s Wn.out;clear hgc;go_simp;clear cs;refine hK.out _ _ trivial (fun _=>?_);clear hK K;refine ax ?_;exact M3_6 _ jd.out
      ·refine iq (o:=⟨some 34, .load 198 (.tmp 6),_,_,_,none⟩) rfl 198 _ rfl vb 0 rfl [I ep, .slice A 2 a,I lp, .slice R n r,(.slice (some ⟨g,0,none⟩) (k+1) c)] _ (fun j v hv=>by rw [Nat.zero_add,jd.out.var.cell j];simpa using hv) Tryz.underlying198 rfl (by kernel_rfl) ?_;refine hK.out _ _ trivial (fun _=>?_);clear hK K;refine ax ?_;exact M3_7 _ jd.out
     ·intro V hV;have jd:=ae hV;clear hV;refine wpAnyH_ready (rs:= [1,6,10]) (by kernel_rfl) (by simp) ?_;refine AllReadyH.cons rfl (fun K hK=>?_) (AllReadyH.cons rfl (fun K hK=>?_) (AllReadyH.cons rfl (fun K hK=>?_) AllReadyH.nil))
      ·have c4:=jd.out.var.cell 4;go_simp;clear c4;refine hK.out _ _ trivial (fun _=>?_);clear hK K;refine ax ?_;exact Jp _ jd.out
      ·obtain ⟨_,e,_,_,_,hgc⟩:=jd.out.there;injection e with e;injection e with e;subst e;have cs:=hgc k s Wn.out;clear hgc;go_simp;clear cs;refine hK.out _ _ trivial (fun _=>?_);clear hK K;refine ax ?_;exact PX _ jd.out
      ·go_simp;refine (Ya.out V jd.out.lo).mono ?_;rintro e W14 ⟨rfl,hb14⟩;have HX14:=ae (jd.out.grow hb14);clear hb14;refine hK.out _ _ trivial (fun _=>?_);clear hK K;refine ax ?_;exact LD _ HX14.out
     ·intro V hV;have jd:=ae hV;clear hV;refine lJ 1 6 (fun K hK=>?_) (fun K hK=>?_)
      ·have c4:=jd.out.var.cell 4;go_simp;clear c4;refine hK.out _ _ trivial (fun _=>?_);clear hK K;refine ax ?_;exact xu _ jd.out
      ·obtain ⟨_,e,_,_,_,hgc⟩:=jd.out.there;injection e with e;injection e with e;subst e;have cs:=hgc k s Wn.out;clear hgc;go_simp;clear cs;refine hK.out _ _ trivial (fun _=>?_);clear hK K;refine ax ?_;refine aK 11 (I (s+yk)) 38 trivial (fun w' hSw=>?_) ?_
       ·clear hSw
        first|(go_simp;done)|(go_simp;with_reducible rfl)
       refine ax ?_;exact Dv _ jd.out
     ·intro V hV;have jd:=ae hV;clear hV;refine lJ 1 7 (fun K hK=>?_) (fun K hK=>?_)
      ·have c4:=jd.out.var.cell 4;go_simp;clear c4;refine hK.out _ _ trivial (fun _=>?_);clear hK K;refine ax ?_;exact PW _ jd.out
      ·refine iq (o:=⟨some 34, .load 198 (.tmp 6),_,_,_,none⟩) rfl 198 _ rfl vb 0 rfl [I ep, .slice A 2 a,I lp, .slice R n r,(.slice (some ⟨g,0,none⟩) (k+1) c)] _ (fun j v hv=>by rw [Nat.zero_add,jd.out.var.cell j];simpa using hv) Tryz.underlying198 rfl (by kernel_rfl) ?_;refine hK.out _ _ trivial (fun _=>?_);clear hK K;refine ax ?_;exact PX _ jd.out
     ·intro V hV;have jd:=ae hV;clear hV;refine lJ 1 10 (fun K hK=>?_) (fun K hK=>?_)
      ·have c4:=jd.out.var.cell 4;go_simp;clear c4;refine hK.out _ _ trivial (fun _=>?_);clear hK K;refine ax ?_;exact Ag _ jd.out
      ·go_simp;refine (Ya.out V jd.out.lo).mono ?_;rintro e W20 ⟨rfl,hb20⟩;have HX20:=ae (jd.out.grow hb20);clear hb20;refine hK.out _ _ trivial (fun _=>?_);clear hK K;refine ax ?_;refine aK 11 (I (s+yk)) 38 trivial (fun w' hSw=>?_) ?_
       ·clear hSw
        first|(go_simp;done)|(go_simp;with_reducible rfl)
       refine ax ?_;exact Dv _ HX20.out
     ·intro V hV;have jd:=ae hV;clear hV;refine lJ 1 12 (fun K hK=>?_) (fun K hK=>?_)
      ·have c4:=jd.out.var.cell 4;go_simp;clear c4;refine hK.out _ _ trivial (fun _=>?_);clear hK K;refine ax ?_;exact rG _ jd.out
      ·go_simp;refine hK.out _ _ trivial (fun _=>?_);clear hK K;refine ax ?_;exact Eu V jd.out
     ·intro V1 hV;have Jn:=ae hV;have jd:=ae (hV.grow (ag V1 (.cells #[I (s+yk)] 3)));clear hV;refine bI 1 (fun K hK=>?_);have c4:=jd.out.var.cell 4;go_simp;clear c4;refine hK.out _ _ trivial (fun _=>?_);clear hK K;refine ax ?_;exact rH V1 Jn.out
     ·intro V hV;have jd:=ae hV;clear hV;refine lJ 3 7 (fun K hK=>?_) (fun K hK=>?_)
      ·have c4:=jd.out.var.cell 4;go_simp;clear c4;refine hK.out _ _ trivial (fun _=>?_);clear hK K;refine ax ?_;refine aK 5 (.pointer (some ⟨g,k,none⟩)) 32 trivial (fun w' hSw=>?_) ?_
       ·clear hSw
        first|(go_simp;done)|(go_simp;with_reducible rfl)
       refine ax ?_;exact M1_3 _ jd.out
      ·refine iq (o:=⟨some 34, .load 198 (.tmp 6),_,_,_,none⟩) rfl 198 _ rfl vb 0 rfl [I ep, .slice A 2 a,I lp, .slice R n r,(.slice (some ⟨g,0,none⟩) (k+1) c)] _ (fun j v hv=>by rw [Nat.zero_add,jd.out.var.cell j];simpa using hv) Tryz.underlying198 rfl (by kernel_rfl) ?_;refine hK.out _ _ trivial (fun _=>?_);clear hK K;refine ax ?_;exact M1_7 _ jd.out
     ·intro V hV;have jd:=ae hV;clear hV;refine lJ 3 10 (fun K hK=>?_) (fun K hK=>?_)
      ·have c4:=jd.out.var.cell 4;go_simp;clear c4;refine hK.out _ _ trivial (fun _=>?_);clear hK K;refine ax ?_;refine aK 5 (.pointer (some ⟨g,k,none⟩)) 32 trivial (fun w' hSw=>?_) ?_
       ·clear hSw
        first|(go_simp;done)|(go_simp;with_reducible rfl)
       refine ax ?_;exact Jp _ jd.out
      ·go_simp;refine (Ya.out V jd.out.lo).mono ?_;rintro e W27 ⟨rfl,hb27⟩;have HX27:=ae (jd.out.grow hb27);clear hb27;refine hK.out _ _ trivial (fun _=>?_);clear hK K;refine ax ?_;exact LC _ HX27.out
     ·intro V hV;have jd:=ae hV;clear hV;refine bI 3 (fun K hK=>?_);have c4:=jd.out.var.cell 4;go_simp;clear c4;refine hK.out _ _ trivial (fun _=>?_);clear hK K;refine ax ?_;refine aK 5 (.pointer (some ⟨g,k,none⟩)) 32 trivial (fun w' hSw=>?_) ?_
      ·clear hSw
       first|(go_simp;done)|(go_simp;with_reducible rfl)
      refine ax ?_;exact xu _ jd.out
     ·intro V hV;have jd:=ae hV;clear hV;refine lJ 6 7 (fun K hK=>?_) (fun K hK=>?_)
      ·obtain ⟨_,e,_,_,_,hgc⟩:=jd.out.there;injection e with e;injection e with e;subst e;have cs:=hgc k s Wn.out;clear hgc;go_simp;clear cs;refine hK.out _ _ trivial (fun _=>?_);clear hK K;refine ax ?_;exact PW _ jd.out
      ·refine iq (o:=⟨some 34, .load 198 (.tmp 6),_,_,_,none⟩) rfl 198 _ rfl vb 0 rfl [I ep, .slice A 2 a,I lp, .slice R n r,(.slice (some ⟨g,0,none⟩) (k+1) c)] _ (fun j v hv=>by rw [Nat.zero_add,jd.out.var.cell j];simpa using hv) Tryz.underlying198 rfl (by kernel_rfl) ?_;refine hK.out _ _ trivial (fun _=>?_);clear hK K;refine ax ?_;exact Jp _ jd.out
     ·intro V hV;have jd:=ae hV;clear hV;refine lJ 6 10 (fun K hK=>?_) (fun K hK=>?_)
      ·obtain ⟨_,e,_,_,_,hgc⟩:=jd.out.there;injection e with e;injection e with e;subst e;have cs:=hgc k s Wn.out;clear hgc;go_simp;clear cs;refine hK.out _ _ trivial (fun _=>?_);clear hK K;refine ax ?_;exact Ag _ jd.out
      ·go_simp;refine (Ya.out V jd.out.lo).mono ?_;rintro e W32 ⟨rfl,hb32⟩;have HX32:=ae (jd.out.grow hb32);clear hb32;refine hK.out _ _ trivial (fun _=>?_);clear hK K;refine ax ?_;exact xu _ HX32.out
     ·intro V hV;have jd:=ae hV;clear hV;refine bI 6 (fun K hK=>?_);obtain ⟨_,e,_,_,_,hgc⟩:=jd.out.there;injection e with e;injection e with e;subst e;have cs:=hgc k s Wn.out;clear hgc;go_simp;clear cs;refine hK.out _ _ trivial (fun _=>?_);clear hK K;refine ax ?_;refine aK 11 (I (s+yk)) 38 trivial (fun w' hSw=>?_) ?_
      ·clear hSw
       first|(go_simp;done)|(go_simp;with_reducible rfl)
      refine ax ?_;exact rG _ jd.out
     ·intro V hV;have jd:=ae hV;clear hV;refine bI 7 (fun K hK=>?_);refine iq (o:=⟨some 34, .load 198 (.tmp 6),_,_,_,none⟩) rfl 198 _ rfl vb 0 rfl [I ep, .slice A 2 a,I lp, .slice R n r,(.slice (some ⟨g,0,none⟩) (k+1) c)] _ (fun j v hv=>by rw [Nat.zero_add,jd.out.var.cell j];simpa using hv) Tryz.underlying198 rfl (by kernel_rfl) ?_;refine hK.out _ _ trivial (fun _=>?_);clear hK K;refine ax ?_;exact Ag _ jd.out
     ·intro V hV;have jd:=ae hV;clear hV;refine bI 10 (fun K hK=>?_);go_simp;refine (Ya.out V jd.out.lo).mono ?_;rintro e W35 ⟨rfl,hb35⟩;have HX35:=ae (jd.out.grow hb35);clear hb35;refine hK.out _ _ trivial (fun _=>?_);clear hK K;refine ax ?_;refine aK 11 (I (s+yk)) 38 trivial (fun w' hSw=>?_) ?_
      ·clear hSw
       first|(go_simp;done)|(go_simp;with_reducible rfl)
      refine ax ?_;exact rG _ HX35.out
     ·intro V hV;have jd:=ae hV;clear hV;refine bI 12 (fun K hK=>?_);go_simp;refine hK.out _ _ trivial (fun _=>?_);clear hK K;refine ax ?_;exact rH V jd.out
     ·intro V1 hV;have Jn:=ae hV;have jd:=ae (hV.grow (ag V1 (.cells #[I (s+yk)] 3)));clear hV;refine bI 13 (fun K hK=>?_);have uj:=Jn.out.var.lt;have hvge:=Jn.out.ge;refine step_append_lies _ (by rfl) _ _ _ (by rfl) (w.heap.size+2) 3 i0 (.int .i64 0) 1 8 Tryz.underlying44 HI.out zD.out oG.out lL.out rfl (by omega) (.slice (some ⟨g,0,none⟩) (k+1) c) (k+1) (ss.map I) (by rfl) jd.out.own ⟨V1.heap.size,0,none⟩ 1 1 [I (s+yk)] (by rfl) rfl (dC V1 _ _ _ rfl) (fun y hy=>by rw [List.mem_singleton.1 hy];rfl) (by omega) (by unfold maxLen;omega) (by omega) (by simp;omega) _ rfl ?_;intro gg cap w6 hown6 hgrow6 fJ _;have jl:=ae (Jn.out.add rfl rfl hown6 hgrow6 fJ);have Tm:Hid (AV vb 198 #[I ep, .slice A 2 a,I lp, .slice R n r,(.slice (some ⟨g,0,none⟩) (k+1) c)] w6):=ae ⟨(hgrow6.block _ (by simp;omega) Jn.out.ne).trans ((Below.heap_alloc _ _ _ uj).trans Jn.out.var.var)⟩;clear hown6 hgrow6 fJ;refine hK.out _ _ trivial (fun _=>?_);clear hK K;try simp only [Act.put,List.setIfInBounds_toArray]
      refine aK 14 (.pointer (some ⟨vb,4,none⟩)) 41 trivial (fun w' hSw=>?_) ?_
      ·clear hSw
       first|(go_simp;done)|(go_simp;with_reducible rfl)
      try simp only [Act.put]
      refine bI 15 (fun K hK=>?_);have c4:=Tm.out.cell 4;have f4:=Tm.out.gm 4;go_simp;refine hK.out _ _ trivial (fun _=>?_);clear hK K;refine wpAnyH_done (by kernel_rfl) ?_ _;go_wp2_with fail;go_meet;exact ⟨rfl,_,_,jl.out⟩
    case rest=>
     obtain ⟨rfl,c2,S2,hw2⟩:=hcut;have uJ:=ae hw2;clear hw2 HX0;go_wp2_with fail;go_roundw
     case rel=>exact ⟨k+1,c2,S2,_,by omega,by go_num,by rw [bJ,HSL.out];rfl,by rw [List.getElem?_append_right (by rw [HSL.out];omega),HSL.out,Nat.sub_self,Ll.out];rfl,uJ.out⟩
     case measure=>simp [intOf];omega
   ·have i1:¬(k:Int)<(N:Int):=by omega
    have hkN2:k=N:=by omega
    have lG:=ae hkN2;have rv:=HX0.out.r;have vG:=ae rv;clear rv hkN2;go_wp2_with (first
     |((with_reducible refine dI 198 ?_);go_must (refine aW rfl _ _ rfl vb rfl #[I ep, .slice A 2 a,I lp, .slice R n r, .slice S (k+1) c] HX0.out.var.jK _ Tryz.underlying198 rfl (by kernel_rfl) ?_))
     |((with_reducible refine bT 198 ?_);go_must (refine wpList_store_row rfl _ _ _ rfl (w.heap.size+1) #[I ep, .slice A 2 a,I lp, .slice R n r, .slice S (k+1) c] rfl rfl 198 #[I 0, .slice none 0 0,I 0, .slice none 0 0, .slice none 0 0] vG.out.var (by kernel_rfl) rfl (by simp [Value.oneCell']) ?_)))
    refine bodyPost_ret (v:= .tuple #[.agg #[I ep, .slice A 2 a,I lp, .slice R n r, .slice S (k+1) c], .bool true]) (bF rfl _ _ (w.heap.size+1) _ #[I ep, .slice A 2 a,I lp, .slice R n r, .slice S (k+1) c] (0,0) _ rfl (setRow_heap _ _ _ _ _ _ vG.out.var) Tryz.underlying198 rfl (by kernel_rfl) _ rfl) rfl ?_;obtain ⟨g,rfl,hg,hgw,hkc,hgc⟩:=HX0.out.there;refine ⟨some ⟨g,0,none⟩,k+1,c,ss,by rw [e2],?_,HSL.out,?_, .inr ⟨g,0,rfl,by rw [setRow_size];exact hgw,fun j hj=>?_⟩,hkc,aC HX0.out.lo (by omega) _⟩
    ·rw [Dp.out,lG.out];omega
    ·rw [Nat.add_sub_cancel,Wn.out,lG.out,HST.out]
    ·rw [Nat.zero_add];have hb:(wr.setRow (w.heap.size+1) #[I ep, .slice A 2 a,I lp, .slice R n r, .slice (some ⟨g,0,none⟩) (k+1) c]).heap[g]? =wr.heap[g]? :=setRow_other _ _ g _ (by omega);have h7:(wr.setRow (w.heap.size+1) #[I ep, .slice A 2 a,I lp, .slice R n r, .slice (some ⟨g,0,none⟩) (k+1) c]).cell? ⟨g,j,none⟩=wr.cell? ⟨g,j,none⟩:=by
      simp only [World.cell?,hb]
     rw [h7];exact hgc j _ (by rw [dE hj];rfl)
end Go.Proofs.YtdibbemgpikgjaaGreat
