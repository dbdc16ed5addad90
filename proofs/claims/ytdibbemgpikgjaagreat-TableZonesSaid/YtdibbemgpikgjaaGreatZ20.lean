/- The texts Nf, Nh, Ng3, Kg, in this order. -/
import Derived.Test.YtdibbemgpikgjaaGreatZ00
import Derived.Shelf.SlSortCmp.NoneTotal
import Derived.Test.YtdibbemgpikgjaaGreatZ16
import Derived.Test.YtdibbemgpikgjaaGreatZ17
import Derived.Test.YtdibbemgpikgjaaGreatZ18
import Derived.Test.YtdibbemgpikgjaaGreatZ19
set_option maxRecDepth 10000
set_option maxHeartbeats 8000000
namespace Go.Proofs.YtdibbemgpikgjaaGreat
open Go Go.RowKit
theorem YB (c:Cal) (A R S:Option Addr) (a r k0 cp:Nat) (ss:List Int) (w:World) (hc:gG c) (hk:(k0:Int)=qE c+1) (hl:ss.length=k0) (hs:ss[k0 - 1]? =some (qC c)) (hI:fE w w.heap.size S ss) (hkc:k0≤cp):Calls Tryz.prog 99 #[.agg (jE c A a R r (.slice S k0 cp))] w (Gives (.tuple #[I (qE c),I (qC c)]) w):=by
 obtain ⟨k,rfl⟩:∃k,k0=k+1:=⟨k0 - 1,by
  have:1≤qE c:=by unfold qE;split<;>omega
  omega⟩
 rw [Nat.add_sub_cancel] at hs;have hky:qE c=(k:Int):=by omega
 have hkl:k<ss.length:=by omega
 obtain ⟨dd,hdd⟩:∃d,qC c=d:=⟨_,rfl⟩;rw [hky,hdd];rw [hdd] at hs;rcases hI with h0|⟨b,off,rfl,hb,hcl⟩
 ·omega
 have f:w.cell? ⟨b,off+k,none⟩=some (I dd):=by rw [hcl k hkl,hs];rfl
 have hne:¬b=w.heap.size:=by omega
 have hk0:(0:Int)≤(k:Int):=by omega
 have hkb:(k:Int)≤2:=by
  have:qE c≤2:=by unfold qE;split<;>omega
  omega
 have hk1:(k:Int)<(k:Int)+1:=by omega
 obtain ⟨n,hn⟩:∃n,c.rules.length=n:=⟨_,rfl⟩;obtain ⟨ep,m0,m1,lp,rs,rfl,_,_,_,_,_⟩:=hc.form;simp only at hn;have e0:jE ⟨ep,[m0,m1],lp,rs⟩ A a R r (.slice (some ⟨b,off,none⟩) (k+1) cp)= #[I ep, .slice A 2 a,I lp, .slice R n r, .slice (some ⟨b,off,none⟩) (k+1) cp]:=by rw [←hn];rfl
 rw [e0];have HV:=ae (jS.start w #[I ep, .slice A 2 a,I lp, .slice R n r, .slice (some ⟨b,off,none⟩) (k+1) cp] 198);clear hc hcl hs hl e0 hn hdd hky hk;go_enter Tryz.func99,Tryz.ntmps99;go_wp2_with fail;generalize w.alloc (.cells #[I ep, .slice A 2 a,I lp, .slice R n r, .slice (some ⟨b,off,none⟩) (k+1) cp] 198)=W0 at HV ⊢;have g0:W0.cell? ⟨b,off+k,none⟩=some (I dd):=(HV.out.up.cell (p:=⟨b,off+k,none⟩) hb).trans f;have v1:W0.cell? ⟨w.heap.size,4,none⟩=some (.slice (some ⟨b,off,none⟩) (k+1) cp):=HV.out.row.2 4;clear f;go_wp2_with fail;go_quiet (fail);go_wp2_with fail;go_ret2;exact ⟨rfl,ah HV.out.up (below_drewN' _ _)⟩
theorem Ql (c:Cal) (A R:Option Addr) (a r:Nat) (w:World) (hc:gG c) (h:nN w w.heap.size A R c):Calls Tryz.prog 75 #[.agg (aF c A a R r)] w (Gives (.tuple #[I (qE c),I (qC c),I 0]) w):=by
 have HOP:=ae (fun (W:World) (hb:Below w.heap.size w W)=>NV c A R a r W hc (h.grow hb));have rE:=ae (fun (S:Option Addr) (k cp:Nat) (ss:List Int) (W:World)=>YB c A R S a r k cp ss W hc);unfold OpnP at HOP;obtain ⟨yy,hyy⟩:∃y,qE c=y:=⟨_,rfl⟩;obtain ⟨dd,hdd⟩:∃d,qC c=d:=⟨_,rfl⟩;rw [hyy,hdd] at HOP rE ⊢;obtain ⟨n,hn⟩:∃n,c.rules.length=n:=⟨_,rfl⟩;obtain ⟨ep,m0,m1,lp,rs,rfl,b1,b2,b3,b4,hrs⟩:=hc.form;simp only at hn;have e1:aF ⟨ep,[m0,m1],lp,rs⟩ A a R r= #[I ep, .slice A 2 a,I lp, .slice R n r]:=by rw [←hn];rfl
 have e2:∀S,jE ⟨ep,[m0,m1],lp,rs⟩ A a R r S= #[I ep, .slice A 2 a,I lp, .slice R n r,S]:=fun S=>by rw [←hn];rfl
 simp only [e1,e2] at HOP rE ⊢;have HV:=ae (jS.start w #[I ep, .slice A 2 a,I lp, .slice R n r] 47);clear hc h hn hrs e1 e2 hyy hdd b1 b2 b3 b4;go_enter Tryz.func75,Tryz.ntmps75;go_wp2_with fail;refine (HOP.out _ HV.out.up).mono ?_;rintro e w1 ⟨S,k,cp,ss,rfl,hk,hl,hs,hI,hkc,hb1⟩;have oH:=ae (HV.out.grow hb1);have HK:=ae hk;have HL:=ae hl;have HS:=ae hs;have HII:=ae hI;have HKC:=ae hkc;clear hb1 HV hk hl hs hI hkc;have hone:(#[I ep, .slice A 2 a,I lp, .slice R n r, .slice S k cp]:Array Value).all (·.oneCell')=true:=by simp [Value.oneCell']
 go_wp2_with (first
  |((with_reducible refine bn 198 ?_);refine aG rfl 198 rfl #[I 0, .slice none 0 0,I 0, .slice none 0 0, .slice none 0 0] (by kernel_rfl) ?_)
  |((with_reducible refine bT 198 ?_);go_must (refine wpList_store_row rfl _ _ _ rfl w1.heap.size #[I ep, .slice A 2 a,I lp, .slice R n r, .slice S k cp] rfl rfl 198 #[I 0, .slice none 0 0,I 0, .slice none 0 0, .slice none 0 0] (heap_alloc_last w1 _) (by kernel_rfl) rfl hone ?_))
  |((with_reducible refine dI 198 ?_);go_must (refine aW rfl _ _ rfl w1.heap.size rfl #[I ep, .slice A 2 a,I lp, .slice R n r, .slice S k cp] (AV.lq (AV.new w1 #[I 0, .slice none 0 0,I 0, .slice none 0 0, .slice none 0 0] 198) #[I ep, .slice A 2 a,I lp, .slice R n r, .slice S k cp]).jK _ Tryz.underlying198 rfl (by kernel_rfl) ?_)))
 have hb2:Below w1.heap.size w1 ((w1.alloc (.cells #[I 0, .slice none 0 0,I 0, .slice none 0 0, .slice none 0 0] 198)).setRow w1.heap.size #[I ep, .slice A 2 a,I lp, .slice R n r, .slice S k cp]):=aC (ag w1 _) (Nat.le_refl _) _;generalize (w1.alloc (.cells #[I 0, .slice none 0 0,I 0, .slice none 0 0, .slice none 0 0] 198)).setRow w1.heap.size #[I ep, .slice A 2 a,I lp, .slice R n r, .slice S k cp]=W2 at hb2 ⊢;have ni:=ae (oH.out.grow hb2);have HI2:=ae ((HII.out.keep hb2).more hb2.size);clear hb2;refine (rE.out S k cp ss W2 HK.out HL.out HS.out HI2.out HKC.out).mono ?_;rintro e w3 ⟨rfl,hb3⟩;have vH:=ae (ni.out.grow hb3);clear hb3;go_wp2_with fail
 go_ret3
 exact ⟨rfl,vH.out.up⟩
structure oP (w:World) (zc:List Value) (cy:Int) (A:Option Addr) (n c:Nat) (ts:List Tr) (W:World):Prop where
 lo:Below w.heap.size w W
 z:AV w.heap.size 51 zc.toArray W
 k:AV (w.heap.size+1) 92 (zc++ [Value.slice A n c,I cy]).toArray W
 own:iR (w.heap.size+2) W A n c ts
 len:ts.length=n
section
variable {w W W':World} {zc:List Value} {cy:Int} {A:Option Addr} {n c:Nat} {ts:List Tr}
theorem oP.grow (h:oP w zc cy A n c ts W) (hb:Below W.heap.size W W'):oP w zc cy A n c ts W':=⟨ah h.lo hb,h.z.below hb,h.k.below hb,h.own.below hb,h.len⟩
theorem oP.drew (h:oP w zc cy A n c ts W):oP w zc cy A n c ts W.drew:=h.grow ((Below.refl _ W).drew)
theorem oP.drewN (h:oP w zc cy A n c ts W) (q:Nat):oP w zc cy A n c ts (W.drewN q):=h.grow (below_drewN' _ _)
theorem oP.Xi (h:oP w zc cy A n c ts W) (h8:zc.length=8) (v:Int):oP w zc v A n c ts (W.setCell ⟨w.heap.size+1,9,none⟩ (I v)):=by
 refine ⟨h.lo.setCell (p:=⟨w.heap.size+1,9,none⟩) (by show w.heap.size≤w.heap.size+1;omega) _,h.z.far (by omega) 9 _,?_,dA (p:=⟨w.heap.size+1,9,none⟩) h.own (dV h.own _ (by show w.heap.size+1<_;omega)),h.len⟩;have h2:=h.k.put 9 (I v);have e:(zc++ [Value.slice A n c,I cy]).toArray.setIfInBounds 9 (I v)=(zc++ [Value.slice A n c,I v]).toArray:=by
  match zc,h8 with
  | [_,_,_,_,_,_,_,_],_=>rfl
 rw [e] at h2;exact h2
theorem oP.add {Wb w6:World} {gg cap:Nat} {x:Tr} (h:oP w zc cy A n c ts W) (h8:zc.length=8) (EN:Wb=W.alloc (.cells #[I x.at_,I x.off] 100))
  (hown:w6.ownsRow (w.heap.size+2) 100 2 (.slice (Option.some ⟨gg,0,none⟩) (n+1) cap) (n+1) (ts.flatMap Tr.cells++ [I x.at_,I x.off])) (hg:Wb.grownBy w6 (Value.slice A n c).ownBlock):
  oP w zc cy (Option.some ⟨gg,0,none⟩) (n+1) cap (ts++ [x]) (w6.setCell ⟨w.heap.size+1,8,none⟩ (.slice (Option.some ⟨gg,0,none⟩) (n+1) cap)):=by
 have hsb:Wb.heap.size=W.heap.size+1:=by rw [EN];simp
 have hlt:=h.k.lt;have hbl:∀b,b<W.heap.size→Option.some b≠(Value.slice A n c).ownBlock→w6.heap[b]? =W.heap[b]? :=fun b hb hn=>
  (hg.block b (by omega) hn).trans (by rw [EN];exact Below.heap_alloc W _ b hb)
 have hlow:=dV h.own;have hset:∀b,b≠w.heap.size+1→(w6.setCell ⟨w.heap.size+1,8,none⟩ (.slice (Option.some ⟨gg,0,none⟩) (n+1) cap)).heap[b]? =w6.heap[b]? :=fun b hb=>heap_setCell_other w6 ⟨w.heap.size+1,8,none⟩ b _ hb;have h1:Below w.heap.size w Wb:=by rw [EN];exact ah h.lo (ag W _)
 have hob:Wb.ownsRow (w.heap.size+2) 100 2 (.slice A n c) n (ts.flatMap Tr.cells):=by rw [EN];exact own_below h.own (ag W _)
 have hk6:AV (w.heap.size+1) 92 (zc++ [Value.slice A n c,I cy]).toArray w6:=⟨(hbl _ hlt (hlow _ (by omega))).trans h.k.var⟩;have hup:Below w.heap.size w w6:=di h1 (aX hob (by omega)) h1.size hg;have hgl:=gq hown;refine ⟨hup.setCell (p:=⟨w.heap.size+1,8,none⟩) (by show w.heap.size≤w.heap.size+1;omega) _,⟨(hset _ (by omega)).trans ((hbl _ (by omega) (hlow _ (by omega))).trans h.z.var)⟩,?_,?_,by rw [bJ,h.len];rfl⟩
 ·have h2:=hk6.put 8 (.slice (Option.some ⟨gg,0,none⟩) (n+1) cap);have e:(zc++ [Value.slice A n c,I cy]).toArray.setIfInBounds 8 (.slice (Option.some ⟨gg,0,none⟩) (n+1) cap)=(zc++ [Value.slice (Option.some ⟨gg,0,none⟩) (n+1) cap,I cy]).toArray:=by
   match zc,h8 with
   | [_,_,_,_,_,_,_,_],_=>rfl
  rw [e] at h2;exact h2
 ·unfold iR;have e:(ts++ [x]).flatMap Tr.cells=ts.flatMap Tr.cells++ [I x.at_,I x.off]:=by simp [Tr.cells]
  rw [e];exact dA (p:=⟨w.heap.size+1,8,none⟩) hown (fun e=>by
   have:w.heap.size+1=gg:=by simpa [Value.ownBlock] using e
   omega)
theorem oP.sorted {us:List Tr} (h:oP w zc cy A n c ts W) (hl:us.length=n) (ho:iR (w.heap.size+2) W' A n c us) (hg:W.grownBy W' (Value.slice A n c).ownBlock):oP w zc cy A n c us W':=by
 have hlow:=dV h.own;have hlt:=h.k.lt;exact ⟨di h.lo (aX h.own (by omega)) h.lo.size hg,⟨(hg.block _ (by omega) (hlow _ (by omega))).trans h.z.var⟩,⟨(hg.block _ hlt (hlow _ (by omega))).trans h.k.var⟩,ho,hl⟩
end
theorem J9 {lo n c:Nat} {A:Option Addr} {w:World} {ts:List Tr} (h:iR lo w A n c ts) (hl:ts.length=n) (hn:n≤1000):
  Calls Tryz.prog 78 #[.slice A n c, .func (.func 79) #[] #[]] w fun e w'=>
   e= .returned (.tuple #[])∧∃us:List Tr,us.Perm ts∧us.Pairwise (fun a b=>a.at_≤b.at_)∧iR lo w' A n c us∧w.grownBy w' (Value.slice A n c).ownBlock:=by
 by_cases h0:n=0
 ·subst h0;have ht:ts= []:=List.eq_nil_of_length_eq_zero hl;subst ht;refine (Go.Proofs.AnyF.slices_SortFunc_none {RF with} A c _ w).mono ?_;rintro e w' ⟨rfl,rfl⟩;exact ⟨rfl,[],List.Perm.refl _,List.Pairwise.nil,h,⟨rfl,rfl,rfl,Nat.le_refl _,fun _ _ _=>rfl⟩⟩
 ·obtain ⟨g,rfl⟩:∃g,A=some ⟨g,0,none⟩:=by
   rcases h.2 with ⟨hv,hz⟩|⟨g,cap,cur,hv,_⟩
   ·exact absurd hz h0
   ·injection hv with h1 _ _;exact ⟨g,h1⟩
  exact Ko h hl hn
theorem oW (kb:Nat) (cy:Int) (w:World) (h:w.cell? ⟨kb,9,none⟩=some (I cy)) (h0:0≤cy) (h1:cy≤10000):Calls Tryz.prog 59 #[.pointer (some ⟨kb,0,none⟩)] w fun e w'=>e= .returned (I (cy*1440))∧w'=w:=by
 go_enter Tryz.func59,Tryz.ntmps59;go_wp2_with fail;go_ret;exact ⟨rfl,rfl⟩
theorem mg (kb:Nat) (cy:Int) (w:World) (h:w.cell? ⟨kb,9,none⟩=some (I cy)) (h0:0≤cy) (h1:cy≤10000) (k:Nat):Calls Tryz.prog 59 #[.pointer (some ⟨kb,0,none⟩)] (w.drewN k) fun e w'=>e= .returned (I (cy*1440))∧∃m,w'=w.drewN m:=
 (oW kb cy (w.drewN k) h h0 h1).mono fun _ _ ⟨h2,h3⟩=>⟨h2,k,h3⟩
theorem Ro {c:Cal} {r0 r1:Yr} {stop bg y:Int} {f:Nat} {ts res:List Tr} (h:uy c r0 r1 stop f bg y ts=res) (hb:bg<stop) (hf:(stop - bg).toNat≤f) (hy:12≤dK c y):
  ∃f',(stop - (bg+dK c y)).toNat≤f'∧uy c r0 r1 stop f' (bg+dK c y) (y+1) (uw c bg y r1 r0 (uw c bg y r0 r1 ts))=res:=by
 cases f with
 |zero=>omega
 |succ f=>exact ⟨f,by omega,by rw [uy,if_pos hb] at h;exact h⟩
theorem Om {c:Cal} {r0 r1:Yr} {stop bg y:Int} {f:Nat} {ts res:List Tr} (h:uy c r0 r1 stop f bg y ts=res) (hb:¬bg<stop):ts=res:=by
 cases f with
 |zero=>exact h
 |succ f=>rw [uy,if_neg hb] at h;exact h
def I5 (rb zb yb yo:Nat) (mi of U8:Int) (yv:Value) (W:World):Prop:=
 W.cell? ⟨rb,3,none⟩=some (I mi)∧W.cell? ⟨rb,4,none⟩=some (I of)∧W.cell? ⟨zb,7,none⟩=some yv∧W.cell? ⟨yb,yo,none⟩=some (I U8)
theorem IL (c:Cal) (A R:Option Addr) (a r:Nat) (bg y:Int) (x:Yr) (w:World) (hc:gG c) (h:nN w w.heap.size A R c) (hb:0≤bg) (hb2:bg≤100000) (hr:wX x):
  Calls Tryz.prog 76 #[.agg (aF c A a R r),I bg,I y, .agg #[I x.month,I x.bZ,I x.cZ,I x.minute,I x.off]] w (Gives (.tuple #[I (Tz c bg y x).1, .bool (Tz c bg y x).2]) w):=by
 have hm:=hr.mo;have hwk:=hr.wk;have hwd:=hr.wd;clear hr;obtain ⟨mo,wk,wd,mi,of⟩:=x;simp only at hm hwk hwd ⊢;have IY:Hid (∀W,Below w.heap.size w W→Calls Tryz.prog 100 #[.agg (aF c A a R r),I y,I 1] W (Gives (I (dw c y 1)) W)):=ae fun W hb=>Hr _ A R a r y 1 W hc (h.grow hb) (.inl rfl);have kD:Hid (∀W,Below w.heap.size w W→Calls Tryz.prog 100 #[.agg (aF c A a R r),I y,I mo] W (Gives (I (dw c y mo)) W)):=ae fun W hb=>Hr _ A R a r y mo W hc (h.grow hb) hm;have h1:=jV c y 1 hc (.inl rfl);have h2:=jV c y mo hc hm;obtain ⟨res,hres⟩:∃res,Tz c bg y ⟨mo,wk,wd,mi,of⟩=res:=⟨_,rfl⟩;rw [hres];unfold Tz EJ nZ at hres;simp only at hres;obtain ⟨q,hq⟩:∃q,dw c y 1=q:=⟨_,rfl⟩;rw [hq] at IY h1 hres;obtain ⟨n,hn⟩:∃n,dw c y mo=n:=⟨_,rfl⟩;rw [hn] at kD h2 hres;obtain ⟨ep,lp,A',R',n0,n1,hcs⟩:∃ep lp,∃A' R':Option Addr,∃n m:Nat,aF c A a R r= #[I ep, .slice A' n a,I lp, .slice R' m r]:=⟨_,_,_,_,_,_,rfl⟩;rw [hcs] at IY kD ⊢;clear hcs hn hq hc h;rcases hm with rfl|rfl
 ·obtain ⟨p,hp⟩:∃p,(wd - bg)%7=p:=⟨_,rfl⟩;have hp0:0≤p∧p<7:=by omega
  obtain ⟨p2,hp2⟩:∃p,(bg+n - 1 - wd)%7=p:=⟨_,rfl⟩;have hp3:0≤p2∧p2<7:=by omega
  have X4:=ae (fun W=>pF (wd - bg) W);have X5:=ae (fun W=>pF (bg+n - 1 - wd) W);simp only [show ((1:Int)=2)=False from by simp,if_false] at hres;rw [hp] at X4 hres;rw [hp2] at X5 hres;clear hp hp2;by_cases h5:wk=5
  ·subst h5;rw [if_pos rfl] at hres;have jG:=ae hres;clear hres;have HV:=ae (oK.xJ w 0 47 130 #[I ep, .slice A' n0 a,I lp, .slice R' n1 r] #[I 1,I 5,I wd,I mi,I of]);go_enter Tryz.func76,Tryz.ntmps76;go_wp2_with fail;generalize (w.alloc (.cells #[I ep, .slice A' n0 a,I lp, .slice R' n1 r] 47)).alloc (.cells #[I 1,I 5,I wd,I mi,I of] 130)=W0 at HV ⊢;have v0:W0.cell? ⟨w.heap.size,0,none⟩=some (I ep):=HV.out.a.2 0;have v1:W0.cell? ⟨w.heap.size,1,none⟩=some (.slice A' n0 a):=HV.out.a.2 1;have v2:W0.cell? ⟨w.heap.size,2,none⟩=some (I lp):=HV.out.a.2 2;have v3:W0.cell? ⟨w.heap.size,3,none⟩=some (.slice R' n1 r):=HV.out.a.2 3;have u0:W0.cell? ⟨w.heap.size+1,0,none⟩=some (I 1):=HV.out.b.2 0;have u1:W0.cell? ⟨w.heap.size+1,1,none⟩=some (I 5):=HV.out.b.2 1;have u2:W0.cell? ⟨w.heap.size+1,2,none⟩=some (I wd):=HV.out.b.2 2;refine wp_loop_rounds 1 ?_;rw [rounds_succ];go_wp2_with fail;refine (kD.out _ HV.out.up).mono ?_;rintro e w2 ⟨rfl,hb2⟩;have HX:=ae (HV.out.below hb2);clear v0 v1 v2 v3 u0 u1 u2 hb2 HV;have u1:w2.cell? ⟨w.heap.size+1,1,none⟩=some (I 5):=HX.out.b.2 1;have u2:w2.cell? ⟨w.heap.size+1,2,none⟩=some (I wd):=HX.out.b.2 2;go_wp2_with fail;refine (X4.out _).mono ?_;rintro e w3 ⟨rfl,rfl⟩;go_wp2_with fail;refine (X5.out _).mono ?_;rintro e w4 ⟨rfl,rfl⟩;go_wp2_with fail;go_ret2;exact ⟨by rw [←jG.out];rfl,HX.out.up⟩
  ·rw [if_neg h5] at hres;have jG:=ae hres;clear hres;have HV:=ae (oK.xJ w 0 47 130 #[I ep, .slice A' n0 a,I lp, .slice R' n1 r] #[I 1,I wk,I wd,I mi,I of]);go_enter Tryz.func76,Tryz.ntmps76;go_wp2_with fail;generalize (w.alloc (.cells #[I ep, .slice A' n0 a,I lp, .slice R' n1 r] 47)).alloc (.cells #[I 1,I wk,I wd,I mi,I of] 130)=W0 at HV ⊢;have v0:W0.cell? ⟨w.heap.size,0,none⟩=some (I ep):=HV.out.a.2 0;have v1:W0.cell? ⟨w.heap.size,1,none⟩=some (.slice A' n0 a):=HV.out.a.2 1;have v2:W0.cell? ⟨w.heap.size,2,none⟩=some (I lp):=HV.out.a.2 2;have v3:W0.cell? ⟨w.heap.size,3,none⟩=some (.slice R' n1 r):=HV.out.a.2 3;have u0:W0.cell? ⟨w.heap.size+1,0,none⟩=some (I 1):=HV.out.b.2 0;have u1:W0.cell? ⟨w.heap.size+1,1,none⟩=some (I wk):=HV.out.b.2 1;have u2:W0.cell? ⟨w.heap.size+1,2,none⟩=some (I wd):=HV.out.b.2 2;refine wp_loop_rounds 1 ?_;rw [rounds_succ];go_wp2_with fail;refine (kD.out _ HV.out.up).mono ?_;rintro e w2 ⟨rfl,hb2⟩;have HX:=ae (HV.out.below hb2);clear v0 v1 v2 v3 u0 u1 u2 hb2 HV;have u1:w2.cell? ⟨w.heap.size+1,1,none⟩=some (I wk):=HX.out.b.2 1;have u2:w2.cell? ⟨w.heap.size+1,2,none⟩=some (I wd):=HX.out.b.2 2;go_wp2_with fail;refine (X4.out _).mono ?_;rintro e w3 ⟨rfl,rfl⟩;go_wp2_with fail;go_ret2;exact ⟨by rw [←jG.out];rfl,HX.out.up⟩
 ·obtain ⟨p,hp⟩:∃p,(wd - (bg+q))%7=p:=⟨_,rfl⟩;have hp0:0≤p∧p<7:=by omega
  obtain ⟨p2,hp2⟩:∃p,((bg+q)+n - 1 - wd)%7=p:=⟨_,rfl⟩;have hp3:0≤p2∧p2<7:=by omega
  have X4:=ae (fun W=>pF (wd - (bg+q)) W);have X5:=ae (fun W=>pF ((bg+q)+n - 1 - wd) W);simp only [if_true] at hres;rw [hp] at X4 hres;rw [hp2] at X5 hres;clear hp hp2;by_cases h5:wk=5
  ·subst h5;rw [if_pos rfl] at hres;have jG:=ae hres;clear hres;have HV:=ae (oK.xJ w 0 47 130 #[I ep, .slice A' n0 a,I lp, .slice R' n1 r] #[I 2,I 5,I wd,I mi,I of]);go_enter Tryz.func76,Tryz.ntmps76;go_wp2_with fail;generalize (w.alloc (.cells #[I ep, .slice A' n0 a,I lp, .slice R' n1 r] 47)).alloc (.cells #[I 2,I 5,I wd,I mi,I of] 130)=W0 at HV ⊢;have v0:W0.cell? ⟨w.heap.size,0,none⟩=some (I ep):=HV.out.a.2 0;have v1:W0.cell? ⟨w.heap.size,1,none⟩=some (.slice A' n0 a):=HV.out.a.2 1;have v2:W0.cell? ⟨w.heap.size,2,none⟩=some (I lp):=HV.out.a.2 2;have v3:W0.cell? ⟨w.heap.size,3,none⟩=some (.slice R' n1 r):=HV.out.a.2 3;have u0:W0.cell? ⟨w.heap.size+1,0,none⟩=some (I 2):=HV.out.b.2 0;have u1:W0.cell? ⟨w.heap.size+1,1,none⟩=some (I 5):=HV.out.b.2 1;have u2:W0.cell? ⟨w.heap.size+1,2,none⟩=some (I wd):=HV.out.b.2 2;refine wp_loop_rounds 2 ?_;rw [rounds_succ];go_wp2_with fail;refine (IY.out _ HV.out.up).mono ?_;rintro e w1 ⟨rfl,hb1⟩;have O6:=ae (HV.out.below hb1);clear v0 v1 v2 v3 u0 u1 u2 hb1 HV;have HV:=O6;have v0:w1.cell? ⟨w.heap.size,0,none⟩=some (I ep):=HV.out.a.2 0;have v1:w1.cell? ⟨w.heap.size,1,none⟩=some (.slice A' n0 a):=HV.out.a.2 1;have v2:w1.cell? ⟨w.heap.size,2,none⟩=some (I lp):=HV.out.a.2 2;have v3:w1.cell? ⟨w.heap.size,3,none⟩=some (.slice R' n1 r):=HV.out.a.2 3;have u0:w1.cell? ⟨w.heap.size+1,0,none⟩=some (I 2):=HV.out.b.2 0;have u1:w1.cell? ⟨w.heap.size+1,1,none⟩=some (I 5):=HV.out.b.2 1;have u2:w1.cell? ⟨w.heap.size+1,2,none⟩=some (I wd):=HV.out.b.2 2;go_wp2_with fail;rw [rounds_succ];go_wp2_with fail;refine (kD.out _ HV.out.up).mono ?_;rintro e w2 ⟨rfl,hb2⟩;have HX:=ae (HV.out.below hb2);clear v0 v1 v2 v3 u0 u1 u2 hb2 HV;have u1:w2.cell? ⟨w.heap.size+1,1,none⟩=some (I 5):=HX.out.b.2 1;have u2:w2.cell? ⟨w.heap.size+1,2,none⟩=some (I wd):=HX.out.b.2 2;go_wp2_with fail;refine (X4.out _).mono ?_;rintro e w3 ⟨rfl,rfl⟩;go_wp2_with fail;refine (X5.out _).mono ?_;rintro e w4 ⟨rfl,rfl⟩;go_wp2_with fail;go_ret2;exact ⟨by rw [←jG.out];rfl,HX.out.up⟩
  ·rw [if_neg h5] at hres;have jG:=ae hres;clear hres;have HV:=ae (oK.xJ w 0 47 130 #[I ep, .slice A' n0 a,I lp, .slice R' n1 r] #[I 2,I wk,I wd,I mi,I of]);go_enter Tryz.func76,Tryz.ntmps76;go_wp2_with fail;generalize (w.alloc (.cells #[I ep, .slice A' n0 a,I lp, .slice R' n1 r] 47)).alloc (.cells #[I 2,I wk,I wd,I mi,I of] 130)=W0 at HV ⊢;have v0:W0.cell? ⟨w.heap.size,0,none⟩=some (I ep):=HV.out.a.2 0;have v1:W0.cell? ⟨w.heap.size,1,none⟩=some (.slice A' n0 a):=HV.out.a.2 1;have v2:W0.cell? ⟨w.heap.size,2,none⟩=some (I lp):=HV.out.a.2 2;have v3:W0.cell? ⟨w.heap.size,3,none⟩=some (.slice R' n1 r):=HV.out.a.2 3;have u0:W0.cell? ⟨w.heap.size+1,0,none⟩=some (I 2):=HV.out.b.2 0;have u1:W0.cell? ⟨w.heap.size+1,1,none⟩=some (I wk):=HV.out.b.2 1;have u2:W0.cell? ⟨w.heap.size+1,2,none⟩=some (I wd):=HV.out.b.2 2;refine wp_loop_rounds 2 ?_;rw [rounds_succ];go_wp2_with fail;refine (IY.out _ HV.out.up).mono ?_;rintro e w1 ⟨rfl,hb1⟩;have O6:=ae (HV.out.below hb1);clear v0 v1 v2 v3 u0 u1 u2 hb1 HV;have HV:=O6;have v0:w1.cell? ⟨w.heap.size,0,none⟩=some (I ep):=HV.out.a.2 0;have v1:w1.cell? ⟨w.heap.size,1,none⟩=some (.slice A' n0 a):=HV.out.a.2 1;have v2:w1.cell? ⟨w.heap.size,2,none⟩=some (I lp):=HV.out.a.2 2;have v3:w1.cell? ⟨w.heap.size,3,none⟩=some (.slice R' n1 r):=HV.out.a.2 3;have u0:w1.cell? ⟨w.heap.size+1,0,none⟩=some (I 2):=HV.out.b.2 0;have u1:w1.cell? ⟨w.heap.size+1,1,none⟩=some (I wk):=HV.out.b.2 1;have u2:w1.cell? ⟨w.heap.size+1,2,none⟩=some (I wd):=HV.out.b.2 2;go_wp2_with fail;rw [rounds_succ];go_wp2_with fail;refine (kD.out _ HV.out.up).mono ?_;rintro e w2 ⟨rfl,hb2⟩;have HX:=ae (HV.out.below hb2);clear v0 v1 v2 v3 u0 u1 u2 hb2 HV;have u1:w2.cell? ⟨w.heap.size+1,1,none⟩=some (I wk):=HX.out.b.2 1;have u2:w2.cell? ⟨w.heap.size+1,2,none⟩=some (I wd):=HX.out.b.2 2;go_wp2_with fail;refine (X4.out _).mono ?_;rintro e w3 ⟨rfl,rfl⟩;go_wp2_with fail;go_ret2;exact ⟨by rw [←jG.out];rfl,HX.out.up⟩
def Xj:List Int:= [0,60,120, -90,30,1080, -1080,90]
def mV (n:Nat):Int:=Xj.getD (n%8) 0
theorem Bi (n:Nat): -1080≤mV n∧mV n≤1080:=by
 have h:n%8<8:=Nat.mod_lt _ (by omega);unfold mV;generalize n%8=k at h
 match k,h with
 |0,_=>decide
 |1,_=>decide
 |2,_=>decide
 |3,_=>decide
 |4,_=>decide
 |5,_=>decide
 |6,_=>decide
 |7,_=>decide
theorem wK (n:Nat) (w:World) (hn:n<256):Calls Tryz.prog 72 #[.int .u8 n] w (Gives (I (mV n)) w):=by
 have hm:Int.tmod (n:Int) 8=((n%8:Nat):Int):=by rw [Int.tmod_eq_emod_of_nonneg (by omega)];omega
 have h:n%8<8:=Nat.mod_lt _ (by omega);have HS:Hid (mV n=Xj.getD (n%8) 0):=ae rfl;obtain ⟨V,hV⟩:∃v,mV n=v:=⟨_,rfl⟩;rw [hV] at HS ⊢;clear hV;generalize n%8=k at hm h HS;have hk:k=0∨k=1∨k=2∨k=3∨k=4∨k=5∨k=6∨k=7:=by omega
 rcases hk with rfl|rfl|rfl|rfl|rfl|rfl|rfl|rfl
 all_goals
  push_cast at hm
  go_enter Tryz.func72,Tryz.ntmps72;go_wp2_with fail;go_ret;exact ⟨by rw [HS.out];rfl,ag w _⟩
structure Dw where
 st:UInt8
 dQ:List UInt8
 iM:List UInt8
 bh:UInt8
 a0:UInt8
 a1:UInt8
 a2:UInt8
 a3:UInt8
 b0:UInt8
 b1:UInt8
 b2:UInt8
 b3:UInt8
 cal:UInt8
 rules:Bool
def vO (dQ:List UInt8):Nat→Int
 |0=>0
 |k+1=>vO dQ k+2160+20*((dQ[k]?.getD 0).toNat:Int)
def lI (dQ iM:List UInt8):Nat→List Tr
 |0=> []
 |k+1=>lI dQ iM k++ [⟨vO dQ (k+1),mV (iM[k]?.getD 0).toNat⟩]
def lH (x:Dw):Nat:=Nat.min (Nat.min x.dQ.length x.iM.length) 3
def rZ (n:UInt8):Cal:=if n.toNat%2=1 then ⟨5,[7,8],1,[⟨2,((n.toNat / 2%2:Nat):Int),true⟩]⟩ else ⟨2,[7,6], -1,[]⟩
def oC (k:Int) (a b c d:UInt8):Yr:=⟨1+k,if d.toNat%2=1 then 5 else 1,((a.toNat%3:Nat):Int),((b.toNat*5:Nat):Int),mV (c.toNat%5)⟩
def KW (x:Dw):Zn:=⟨rZ x.cal,mV x.st.toNat,lI x.dQ x.iM (lH x),vO x.dQ (lH x)+2160+20*(x.bh.toNat:Int),[]⟩
def VJ (x:Dw):Zn:= {KW x with ay:= [oC 0 x.a0 x.a1 x.a2 x.a3,oC 1 x.b0 x.b1 x.b2 x.b3]}
def jD (x:Dw):Zn:=if x.rules=true∧vJ (VJ x)=0 then VJ x else KW x
theorem su (g o:List UInt8) (k:Nat):(lI g o k).length=k:=by
 induction k with
 |zero=>rfl
 |succ k ih=>simp [lI,ih]
theorem AY (g o:List UInt8) (k:Nat):∀j,j<k→(lI g o k)[j]? =some ⟨vO g (j+1),mV (o[j]?.getD 0).toNat⟩:=by
 induction k with
 |zero=>intro j hj;omega
 |succ k ih=>
  intro j hj;unfold lI;rcases Nat.lt_succ_iff_lt_or_eq.1 hj with h|rfl
  ·rw [List.getElem?_append_left (by rw [su];exact h)];exact ih j h
  ·rw [List.getElem?_append_right (by rw [su];exact Nat.le_refl _),su,Nat.sub_self];rfl
theorem fV (b:UInt8):b.toNat<256:=UInt8.toNat_lt b
theorem Ak (g:List UInt8) (k:Nat):vO g k+2160≤vO g (k+1)∧vO g (k+1)≤vO g k+7260:=by
 have h:(g[k]?.getD 0).toNat<256:=fV _;rw [show vO g (k+1)=vO g k+2160+20*((g[k]?.getD 0).toNat:Int) from rfl];omega
theorem Ez (g:List UInt8):∀k:Nat,0≤vO g k∧vO g k≤7260*(k:Int):=by
 intro k
 induction k with
 |zero=>exact ⟨Int.le_refl _,by simp [vO]⟩
 |succ k ih=>have:=Ak g k;omega
theorem Qb (g:List UInt8) (j k:Nat) (h:j≤k):vO g j≤vO g k:=by
 induction k with
 |zero=>rw [Nat.le_zero.1 h];exact Int.le_refl _
 |succ k ih=>
  rcases Nat.lt_or_eq_of_le h with h|rfl
  ·have:=Ak g k;have:=ih (by omega);omega
  ·exact Int.le_refl _
theorem MB (x:Dw):lH x≤3∧lH x≤x.dQ.length∧lH x≤x.iM.length:=by
 unfold lH;have h1:=Nat.min_le_right (Nat.min x.dQ.length x.iM.length) 3;have h2:=Nat.min_le_left (Nat.min x.dQ.length x.iM.length) 3;have h3:=Nat.min_le_left x.dQ.length x.iM.length;have h4:=Nat.min_le_right x.dQ.length x.iM.length;exact ⟨h1,Nat.le_trans h2 h3,Nat.le_trans h2 h4⟩
theorem Zq (n:UInt8):gG (rZ n):=by
 unfold rZ;split
 ·refine ⟨by simp,rfl,by simp,by simp,by simp,by simp,?_⟩;intro r hr;rw [List.mem_singleton.1 hr];have:n.toNat / 2%2<2:=Nat.mod_lt _ (by omega);exact ⟨rfl,by simp only;omega,by simp only;omega⟩
 ·exact ⟨by simp,rfl,by simp,by simp,by simp,by simp,by simp⟩
theorem Xg (k:Int) (hk:k=0∨k=1) (a b c d:UInt8):wX (oC k a b c d):=by
 have h1:a.toNat%3<3:=Nat.mod_lt _ (by omega);have h2:=fV b;refine ⟨by simp only [oC];omega,?_,by simp only [oC];omega,by simp only [oC];omega,Bi _⟩;simp only [oC];split<;>omega
theorem Xn (x:Dw):nO (KW x):=by
 have hc:=MB x;have hb:=Ez x.dQ (lH x);have hy:=fV x.bh;have hl:(KW x).trans.length=lH x:=su _ _ _;refine ⟨Zq _,Bi _,?_,by rw [hl];exact hc.1,?_,?_, .inl rfl⟩
 ·show 0≤vO x.dQ (lH x)+2160+20*(x.bh.toNat:Int)∧vO x.dQ (lH x)+2160+20*(x.bh.toNat:Int)≤1000000;omega
 ·intro t ht;obtain ⟨j,hj⟩:=List.getElem?_of_mem ht;have hjl:j<lH x:=by rw [←hl];exact (iU.1 hj).1
  have h:=AY x.dQ x.iM (lH x) j hjl;have h':(KW x).trans[j]? =(lI x.dQ x.iM (lH x))[j]? :=rfl;rw [h',h] at hj;injection hj with hj;subst hj;have h1:=Ez x.dQ (j+1);have h2:=Qb x.dQ (j+1) (lH x) hjl;refine ⟨Bi _,h1.1,?_⟩;show vO x.dQ (j+1)<vO x.dQ (lH x)+2160+20*(x.bh.toNat:Int);omega
 ·intro i hi;rw [hl] at hi;have h1:=AY x.dQ x.iM (lH x) i (by omega);have h2:=AY x.dQ x.iM (lH x) (i+1) hi;have e:(KW x).trans=lI x.dQ x.iM (lH x):=rfl;unfold df;rw [e,h1,h2];have:=Ak x.dQ (i+1);show vO x.dQ (i+1)+2160≤vO x.dQ (i+1+1);omega
theorem Xo (x:Dw):nO (VJ x):=by
 have h:=Xn x;exact ⟨h.cal,h.start,h.hor,h.MV,h.tr,h.gap, .inr ⟨_,_,rfl,Xg 0 (.inl rfl) _ _ _ _,Xg 1 (.inr rfl) _ _ _ _⟩⟩
theorem Q7 (x:Dw):nO (jD x):=by
 unfold jD;split
 ·exact Xo x
 ·exact Xn x
theorem nO.len {z:Zn} (h:nO z):oQ z:=by
 have h1:=h.cal.mo;have h2:=h.cal.ru;have h3:=h.MV;refine ⟨by omega,by omega,by omega,?_⟩;rcases h.yr with e|⟨_,_,e,_,_⟩<;>rw [e]<;>simp
def lu (x:Dw) (G O:Option Addr) (gc oc:Nat):Array Value:= #[Extern.Stop.cell x.st, .slice G x.dQ.length gc, .slice O x.iM.length oc,Extern.Stop.cell x.bh,Extern.Stop.cell x.a0,Extern.Stop.cell x.a1,Extern.Stop.cell x.a2,Extern.Stop.cell x.a3,Extern.Stop.cell x.b0,Extern.Stop.cell x.b1,Extern.Stop.cell x.b2,Extern.Stop.cell x.b3,Extern.Stop.cell x.cal, .bool x.rules]
def LZ (lo B g:Nat) (w:World) (A:Option Addr) (cs:List Value):Prop:=
 cs.length=0∨∃b off,A=some ⟨b,off,none⟩∧lo≤b∧b<B∧b≠g∧∀j u,cs[j]? =some u→w.cell? ⟨b,off+j,none⟩=some u
theorem LZ.aQ {lo B g:Nat} {w w':World} {A:Option Addr} {cs:List Value} (h:LZ lo B g w A cs) (hb:∀k,lo≤k→k<B→k≠g→w'.heap[k]? =w.heap[k]?):LZ lo B g w' A cs:=by
 rcases h with h|⟨b,off,h1,h0,h2,h4,h5⟩
 ·exact .inl h
 ·exact .inr ⟨b,off,h1,h0,h2,h4,fun j u hu=>(World.cell?_of_block (a:=⟨b,off+j,none⟩) (hb b h0 h2 h4)).trans (h5 j u hu)⟩
theorem LZ.more {lo B B' g:Nat} {w:World} {A:Option Addr} {cs:List Value} (h:LZ lo B g w A cs) (hB:B≤B'):LZ lo B' g w A cs:=by
 rcases h with h|⟨b,off,h1,h0,h2,h4,h5⟩
 ·exact .inl h
 ·exact .inr ⟨b,off,h1,h0,by omega,h4,h5⟩
theorem LZ.at {lo B g:Nat} {w:World} {A:Option Addr} {cs:List Value} (h:LZ lo B g w A cs) (hB:B≤w.heap.size):aB w w.heap.size A cs:=by
 rcases h with h|⟨b,off,h1,h0,h2,h4,h5⟩
 ·exact .inl h
 ·exact .inr ⟨b,off,h1,by omega,h5⟩
theorem LZ.nil {lo B g:Nat} {w:World} {A:Option Addr}:LZ lo B g w A []:= .inl rfl
theorem LZ.dZ {lo g e size n c B base:Nat} {A:Option Addr} {w:World} {cs:List Value} (h:w.ownsRow base e size (.slice A n c) n cs) (h0:lo≤base) (hg:g<base) (hB:w.heap.size≤B):LZ lo B g w A cs:=by
 rcases h.2 with ⟨hv,hn⟩|⟨b,cap,cur,hv,hb,hh,_⟩
 ·refine .inl ?_;rw [h.1,hn,Nat.zero_mul]
 ·injection hv with h1 _ _;subst h1;have hl:=(aZ.1 hh).1;exact .inr ⟨b,0,rfl,by omega,by omega,by omega,fun j u hu=>by rw [Nat.zero_add,←addr_add];exact h.cells (g:=b) rfl j u hu⟩
structure MZ (w:World) (xs:Array Value) (zb B:Nat) (zs:Array Value) (A R C:Option Addr) (mo ru tr:List Value) (W:World):Prop where
 x:Row W w.heap.size xs
 res:W.heap[w.heap.size+1]? =some (.cells iQ 51 (0,0))
 z:W.heap[zb]? =some (.cells zs 51 (0,0))
 lo:w.heap.size+2≤zb
 hi:zb<B
 sz:B≤W.heap.size
 up:Below w.heap.size w W
 Zr:LZ (w.heap.size+2) B zb W A mo
 ZG:LZ (w.heap.size+2) B zb W R ru
 trn:LZ (w.heap.size+2) B zb W C tr
section
variable {w W W':World} {xs zs:Array Value} {zb B:Nat} {A R C:Option Addr} {mo ru tr:List Value}
theorem MZ.step (h:MZ w xs zb B zs A R C mo ru tr W) (ho:W'.os=W.os) (ht:W'.tape=W.tape) (hu:W'.output=W.output) (hs:W.heap.size≤W'.heap.size) (hb:∀k,k<B→k≠zb→W'.heap[k]? =W.heap[k]?) {zs':Array Value} (hz:W'.heap[zb]? =some (.cells zs' 51 (0,0))):MZ w xs zb B zs' A R C mo ru tr W':=by
 have h1:=h.lo;have h2:=h.hi;refine ⟨⟨dR h.x.1 hs,fun i=>(World.cell?_of_block (a:=⟨w.heap.size,i,none⟩) (hb _ (by show w.heap.size<B;omega) (by show w.heap.size≠zb;omega))).trans (h.x.2 i)⟩,(hb _ (by omega) (by omega)).trans h.res,hz,h.lo,h.hi,Nat.le_trans h.sz hs,?_,h.Zr.aQ fun k _=>hb k,h.ZG.aQ fun k _=>hb k,h.trn.aQ fun k _=>hb k⟩;exact ⟨ho.trans h.up.os,ht.trans h.up.tape,hu.trans h.up.output,Nat.le_trans h.up.size hs,fun k hk=>(hb k (by omega) (by omega)).trans (h.up.block k hk)⟩
theorem MZ.grow (h:MZ w xs zb B zs A R C mo ru tr W) (hb:Below W.heap.size W W'):MZ w xs zb B zs A R C mo ru tr W':=
 h.step hb.os hb.tape hb.output hb.size (fun k hk _=>hb.block k (dR hk h.sz)) ((hb.block _ (dR h.hi h.sz)).trans h.z)
theorem MZ.store (h:MZ w xs zb B zs A R C mo ru tr W) (o:Nat) (v:Value):MZ w xs zb B (zs.setIfInBounds o v) A R C mo ru tr (W.setCell ⟨zb,o,none⟩ v):=
 h.step (W':=W.setCell ⟨zb,o,none⟩ v) rfl rfl rfl (by simp [World.setCell]) (fun k _ hk=>heap_setCell_other W ⟨zb,o,none⟩ k v hk) (heap_setCell_same W zb o _ _ _ h.z)
theorem MZ.grown (h:MZ w xs zb B zs A R C mo ru tr W) {row:Option Nat} (hg:W.grownBy W' row) (hr:∀g,row=some g→B≤g):MZ w xs zb B zs A R C mo ru tr W':=
 have hh:=h.hi;have hz:=h.sz
 h.step hg.os hg.tape hg.output hg.size (fun k hk _=>hg.block k (by omega) (fun e=>by have:=hr k e.symm;omega)) ((hg.block _ (by omega) (fun e=>by have:=hr zb e.symm;omega)).trans h.z)
theorem MZ.drew (h:MZ w xs zb B zs A R C mo ru tr W):MZ w xs zb B zs A R C mo ru tr W.drew:=h.grow (Below.refl _ W).drew
theorem MZ.cell (h:MZ w xs zb B zs A R C mo ru tr W) (i:Nat):W.cell? ⟨zb,i,none⟩=zs[i]? :=cell_of_row _ _ i _ _ _ h.z
theorem MZ.gm (h:MZ w xs zb B zs A R C mo ru tr W) (i:Nat):W.frozen? ⟨zb,i,none⟩=false:=frozen_of_row _ _ i _ _ h.z
theorem MZ.done (h:MZ w xs zb B zs A R C mo ru tr W) (vs:Array Value):aB (W.setRow (w.heap.size+1) vs) (W.setRow (w.heap.size+1) vs).heap.size A mo∧aB (W.setRow (w.heap.size+1) vs) (W.setRow (w.heap.size+1) vs).heap.size R ru∧aB (W.setRow (w.heap.size+1) vs) (W.setRow (w.heap.size+1) vs).heap.size C tr∧Below w.heap.size w (W.setRow (w.heap.size+1) vs):=by
 have e:∀k,w.heap.size+2≤k→k<B→k≠zb→(W.setRow (w.heap.size+1) vs).heap[k]? =W.heap[k]? :=fun k hk _ _=>setRow_other _ _ k _ (by omega);have hs:B≤(W.setRow (w.heap.size+1) vs).heap.size:=by simpa [World.setRow] using h.sz
 exact ⟨(h.Zr.aQ e).at hs,(h.ZG.aQ e).at hs,(h.trn.aQ e).at hs,below_setRow h.up (by omega) _⟩
theorem MZ.Xm (h:MZ w xs zb B zs A R C mo ru tr W):zb<W.heap.size:=dR h.hi h.sz
end
end Go.Proofs.YtdibbemgpikgjaaGreat
