/- The texts Nf, Nh, Ng3, Kg, in this order. -/
import Derived.Test.YtdibbemgpikgjaaGreatDoorY00
import Derived.Shelf.SlSortCmp.NoneTotal
import Derived.Test.YtdibbemgpikgjaaGreatDoorY11
import Derived.Test.YtdibbemgpikgjaaGreatDoorY12
import Derived.Test.YtdibbemgpikgjaaGreatDoorY13
import Derived.Test.YtdibbemgpikgjaaGreatDoorY14
set_option maxRecDepth 10000
set_option maxHeartbeats 8000000
namespace Go.Proofs.YtdibbemgpikgjaaGreatDoor
open Go Go.RowKit
theorem aad (c:Cal) (A R S:Option Addr) (a r k0 cp:Nat) (ss:List Int) (w:World) (hc:gW c) (hk:(k0:Int)=rH c+1) (hl:ss.length=k0) (hs:ss[k0 - 1]? =some (rG c)) (hI:fJ w w.heap.size S ss) (hkc:k0≤cp):Calls Tryz.prog 118 #[.agg (jw c A a R r (.slice S k0 cp))] w (Gives (.tuple #[I (rH c),I (rG c)]) w):=by
 obtain ⟨k,rfl⟩:∃k,k0=k+1:=⟨k0 - 1,by
  have:1≤rH c:=by unfold rH;split<;>omega
  omega⟩
 rw [Nat.add_sub_cancel] at hs;have hky:rH c=(k:Int):=by omega
 have hkl:k<ss.length:=by omega
 obtain ⟨dd,hdd⟩:∃d,rG c=d:=⟨_,rfl⟩;rw [hky,hdd];rw [hdd] at hs;rcases hI with h0|⟨b,off,rfl,hb,hcl⟩
 ·omega
 have f:w.cell? ⟨b,off+k,none⟩=some (I dd):=by rw [hcl k hkl,hs];rfl
 have hne:¬b=w.heap.size:=by omega
 have hk0:(0:Int)≤(k:Int):=by omega
 have hkb:(k:Int)≤2:=by
  have:rH c≤2:=by unfold rH;split<;>omega
  omega
 have hk1:(k:Int)<(k:Int)+1:=by omega
 obtain ⟨n,hn⟩:∃n,c.rules.length=n:=⟨_,rfl⟩;obtain ⟨ep,m0,m1,lp,rs,rfl,_,_,_,_,_⟩:=hc.form;simp only at hn;have e0:jw ⟨ep,[m0,m1],lp,rs⟩ A a R r (.slice (some ⟨b,off,none⟩) (k+1) cp)= #[I ep, .slice A 2 a,I lp, .slice R n r, .slice (some ⟨b,off,none⟩) (k+1) cp]:=by rw [←hn];rfl
 rw [e0];have HV:=ae (jW.start w #[I ep, .slice A 2 a,I lp, .slice R n r, .slice (some ⟨b,off,none⟩) (k+1) cp] 219);clear hc hcl hs hl e0 hn hdd hky hk;go_enter Tryz.func118,Tryz.ntmps118;go_wp2_with fail;generalize w.alloc (.cells #[I ep, .slice A 2 a,I lp, .slice R n r, .slice (some ⟨b,off,none⟩) (k+1) cp] 219)=W0 at HV ⊢;have g0:W0.cell? ⟨b,off+k,none⟩=some (I dd):=(HV.out.up.cell (p:=⟨b,off+k,none⟩) hb).trans f;have v1:W0.cell? ⟨w.heap.size,4,none⟩=some (.slice (some ⟨b,off,none⟩) (k+1) cp):=HV.out.row.2 4;clear f;go_wp2_with fail;go_quiet (fail);go_wp2_with fail;go_ret2;exact ⟨rfl,ah HV.out.up (below_drewN' _ _)⟩
theorem Sl (c:Cal) (A R:Option Addr) (a r:Nat) (w:World) (hc:gW c) (h:nX w w.heap.size A R c):Calls Tryz.prog 103 #[.agg (aG c A a R r)] w (Gives (.tuple #[I (rH c),I (rG c),I 0]) w):=by
 have HOP:=ae (fun (W:World) (hb:Below w.heap.size w W)=>PK c A R a r W hc (h.grow hb));have qE:=ae (fun (S:Option Addr) (k cp:Nat) (ss:List Int) (W:World)=>aad c A R S a r k cp ss W hc);unfold OpnP at HOP;obtain ⟨yy,hyy⟩:∃y,rH c=y:=⟨_,rfl⟩;obtain ⟨dd,hdd⟩:∃d,rG c=d:=⟨_,rfl⟩;rw [hyy,hdd] at HOP qE ⊢;obtain ⟨n,hn⟩:∃n,c.rules.length=n:=⟨_,rfl⟩;obtain ⟨ep,m0,m1,lp,rs,rfl,b1,b2,b3,b4,hrs⟩:=hc.form;simp only at hn;have e1:aG ⟨ep,[m0,m1],lp,rs⟩ A a R r= #[I ep, .slice A 2 a,I lp, .slice R n r]:=by rw [←hn];rfl
 have e2:∀S,jw ⟨ep,[m0,m1],lp,rs⟩ A a R r S= #[I ep, .slice A 2 a,I lp, .slice R n r,S]:=fun S=>by rw [←hn];rfl
 simp only [e1,e2] at HOP qE ⊢;have HV:=ae (jW.start w #[I ep, .slice A 2 a,I lp, .slice R n r] 63);clear hc h hn hrs e1 e2 hyy hdd b1 b2 b3 b4;go_enter Tryz.func103,Tryz.ntmps103;go_wp2_with fail;refine (HOP.out _ HV.out.up).mono ?_;rintro e w1 ⟨S,k,cp,ss,rfl,hk,hl,hs,hI,hkc,hb1⟩;have pJ:=ae (HV.out.grow hb1);have HK:=ae hk;have HL:=ae hl;have HS:=ae hs;have HII:=ae hI;have HKC:=ae hkc;clear hb1 HV hk hl hs hI hkc;have hone:(#[I ep, .slice A 2 a,I lp, .slice R n r, .slice S k cp]:Array Value).all (·.oneCell')=true:=by simp [Value.oneCell']
 go_wp2_with (first
  |((with_reducible refine bC 219 ?_);refine aH rfl 219 rfl #[I 0, .slice none 0 0,I 0, .slice none 0 0, .slice none 0 0] (by kernel_rfl) ?_)
  |((with_reducible refine cZ 219 ?_);go_must (refine wpList_store_row rfl _ _ _ rfl w1.heap.size #[I ep, .slice A 2 a,I lp, .slice R n r, .slice S k cp] rfl rfl 219 #[I 0, .slice none 0 0,I 0, .slice none 0 0, .slice none 0 0] (heap_alloc_last w1 _) (by kernel_rfl) rfl hone ?_))
  |((with_reducible refine dN 219 ?_);go_must (refine aT rfl _ _ rfl w1.heap.size rfl #[I ep, .slice A 2 a,I lp, .slice R n r, .slice S k cp] (AV.oZ (AV.new w1 #[I 0, .slice none 0 0,I 0, .slice none 0 0, .slice none 0 0] 219) #[I ep, .slice A 2 a,I lp, .slice R n r, .slice S k cp]).iY _ Tryz.underlying219 rfl (by kernel_rfl) ?_)))
 have hb2:Below w1.heap.size w1 ((w1.alloc (.cells #[I 0, .slice none 0 0,I 0, .slice none 0 0, .slice none 0 0] 219)).setRow w1.heap.size #[I ep, .slice A 2 a,I lp, .slice R n r, .slice S k cp]):=aB (ag w1 _) (Nat.le_refl _) _;generalize (w1.alloc (.cells #[I 0, .slice none 0 0,I 0, .slice none 0 0, .slice none 0 0] 219)).setRow w1.heap.size #[I ep, .slice A 2 a,I lp, .slice R n r, .slice S k cp]=W2 at hb2 ⊢;have nJ:=ae (pJ.out.grow hb2);have HI2:=ae ((HII.out.keep hb2).more hb2.size);clear hb2;refine (qE.out S k cp ss W2 HK.out HL.out HS.out HI2.out HKC.out).mono ?_;rintro e w3 ⟨rfl,hb3⟩;have wQ:=ae (nJ.out.grow hb3);clear hb3;go_wp2_with fail
 go_ret3
 exact ⟨rfl,wQ.out.up⟩
structure qF (w:World) (zc:List Value) (cy:Int) (A:Option Addr) (n c:Nat) (ts:List Tr) (W:World):Prop where
 lo:Below w.heap.size w W
 z:AV w.heap.size 67 zc.toArray W
 k:AV (w.heap.size+1) 206 (zc++ [Value.slice A n c,I cy]).toArray W
 own:iE (w.heap.size+2) W A n c ts
 len:ts.length=n
section
variable {w W W':World} {zc:List Value} {cy:Int} {A:Option Addr} {n c:Nat} {ts:List Tr}
theorem qF.grow (h:qF w zc cy A n c ts W) (hb:Below W.heap.size W W'):qF w zc cy A n c ts W':=⟨ah h.lo hb,h.z.below hb,h.k.below hb,h.own.below hb,h.len⟩
theorem qF.drew (h:qF w zc cy A n c ts W):qF w zc cy A n c ts W.drew:=h.grow ((Below.refl _ W).drew)
theorem qF.drewN (h:qF w zc cy A n c ts W) (q:Nat):qF w zc cy A n c ts (W.drewN q):=h.grow (below_drewN' _ _)
theorem qF.YL (h:qF w zc cy A n c ts W) (h8:zc.length=8) (v:Int):qF w zc v A n c ts (W.setCell ⟨w.heap.size+1,9,none⟩ (I v)):=by
 refine ⟨h.lo.setCell (p:=⟨w.heap.size+1,9,none⟩) (by show w.heap.size≤w.heap.size+1;omega) _,h.z.far (by omega) 9 _,?_,dW (p:=⟨w.heap.size+1,9,none⟩) h.own (eU h.own _ (by show w.heap.size+1<_;omega)),h.len⟩;have h2:=h.k.put 9 (I v);have e:(zc++ [Value.slice A n c,I cy]).toArray.setIfInBounds 9 (I v)=(zc++ [Value.slice A n c,I v]).toArray:=by
  match zc,h8 with
  | [_,_,_,_,_,_,_,_],_=>rfl
 rw [e] at h2;exact h2
theorem qF.add {Wb w6:World} {gg cap:Nat} {x:Tr} (h:qF w zc cy A n c ts W) (h8:zc.length=8) (Gg:Wb=W.alloc (.cells #[I x.at_,I x.off] 127))
  (hown:w6.ownsRow (w.heap.size+2) 127 2 (.slice (Option.some ⟨gg,0,none⟩) (n+1) cap) (n+1) (ts.flatMap Tr.cells++ [I x.at_,I x.off])) (hg:Wb.grownBy w6 (Value.slice A n c).ownBlock):
  qF w zc cy (Option.some ⟨gg,0,none⟩) (n+1) cap (ts++ [x]) (w6.setCell ⟨w.heap.size+1,8,none⟩ (.slice (Option.some ⟨gg,0,none⟩) (n+1) cap)):=by
 have hsb:Wb.heap.size=W.heap.size+1:=by rw [Gg];simp
 have hlt:=h.k.lt;have hbl:∀b,b<W.heap.size→Option.some b≠(Value.slice A n c).ownBlock→w6.heap[b]? =W.heap[b]? :=fun b hb hn=>
  (hg.block b (by omega) hn).trans (by rw [Gg];exact Below.heap_alloc W _ b hb)
 have hlow:=eU h.own;have hset:∀b,b≠w.heap.size+1→(w6.setCell ⟨w.heap.size+1,8,none⟩ (.slice (Option.some ⟨gg,0,none⟩) (n+1) cap)).heap[b]? =w6.heap[b]? :=fun b hb=>heap_setCell_other w6 ⟨w.heap.size+1,8,none⟩ b _ hb;have h1:Below w.heap.size w Wb:=by rw [Gg];exact ah h.lo (ag W _)
 have hob:Wb.ownsRow (w.heap.size+2) 127 2 (.slice A n c) n (ts.flatMap Tr.cells):=by rw [Gg];exact own_below h.own (ag W _)
 have hk6:AV (w.heap.size+1) 206 (zc++ [Value.slice A n c,I cy]).toArray w6:=⟨(hbl _ hlt (hlow _ (by omega))).trans h.k.var⟩;have hup:Below w.heap.size w w6:=bG h1 (bf hob (by omega)) h1.size hg;have hgl:=kG hown;refine ⟨hup.setCell (p:=⟨w.heap.size+1,8,none⟩) (by show w.heap.size≤w.heap.size+1;omega) _,⟨(hset _ (by omega)).trans ((hbl _ (by omega) (hlow _ (by omega))).trans h.z.var)⟩,?_,?_,by rw [aZ,h.len];rfl⟩
 ·have h2:=hk6.put 8 (.slice (Option.some ⟨gg,0,none⟩) (n+1) cap);have e:(zc++ [Value.slice A n c,I cy]).toArray.setIfInBounds 8 (.slice (Option.some ⟨gg,0,none⟩) (n+1) cap)=(zc++ [Value.slice (Option.some ⟨gg,0,none⟩) (n+1) cap,I cy]).toArray:=by
   match zc,h8 with
   | [_,_,_,_,_,_,_,_],_=>rfl
  rw [e] at h2;exact h2
 ·unfold iE;have e:(ts++ [x]).flatMap Tr.cells=ts.flatMap Tr.cells++ [I x.at_,I x.off]:=by simp [Tr.cells]
  rw [e];exact dW (p:=⟨w.heap.size+1,8,none⟩) hown (fun e=>by
   have:w.heap.size+1=gg:=by simpa [Value.ownBlock] using e
   omega)
theorem qF.sorted {us:List Tr} (h:qF w zc cy A n c ts W) (hl:us.length=n) (ho:iE (w.heap.size+2) W' A n c us) (hg:W.grownBy W' (Value.slice A n c).ownBlock):qF w zc cy A n c us W':=by
 have hlow:=eU h.own;have hlt:=h.k.lt;exact ⟨bG h.lo (bf h.own (by omega)) h.lo.size hg,⟨(hg.block _ (by omega) (hlow _ (by omega))).trans h.z.var⟩,⟨(hg.block _ hlt (hlow _ (by omega))).trans h.k.var⟩,ho,hl⟩
end
theorem MO {lo n c:Nat} {A:Option Addr} {w:World} {ts:List Tr} (h:iE lo w A n c ts) (hl:ts.length=n) (hn:n≤1000):
  Calls Tryz.prog 106 #[.slice A n c, .func (.func 107) #[] #[]] w fun e w'=>
   e= .returned (.tuple #[])∧∃us:List Tr,us.Perm ts∧us.Pairwise (fun a b=>a.at_≤b.at_)∧iE lo w' A n c us∧w.grownBy w' (Value.slice A n c).ownBlock:=by
 by_cases h0:n=0
 ·subst h0;have ht:ts= []:=List.eq_nil_of_length_eq_zero hl;subst ht;refine (Go.Proofs.AnyF.slices_SortFunc_none {Ui with} A c _ w).mono ?_;rintro e w' ⟨rfl,rfl⟩;exact ⟨rfl,[],List.Perm.refl _,List.Pairwise.nil,h,⟨rfl,rfl,rfl,Nat.le_refl _,fun _ _ _=>rfl⟩⟩
 ·obtain ⟨g,rfl⟩:∃g,A=some ⟨g,0,none⟩:=by
   rcases h.2 with ⟨hv,hz⟩|⟨g,cap,cur,hv,_⟩
   ·exact absurd hz h0
   ·injection hv with h1 _ _;exact ⟨g,h1⟩
  exact MP h hl hn
theorem y9 (kb:Nat) (cy:Int) (w:World) (h:w.cell? ⟨kb,9,none⟩=some (I cy)) (h0:0≤cy) (h1:cy≤10000):Calls Tryz.prog 109 #[.pointer (some ⟨kb,0,none⟩)] w fun e w'=>e= .returned (I (cy*1440))∧w'=w:=by
 go_enter Tryz.func109,Tryz.ntmps109;go_wp2_with fail;go_ret;exact ⟨rfl,rfl⟩
theorem qA (kb:Nat) (cy:Int) (w:World) (h:w.cell? ⟨kb,9,none⟩=some (I cy)) (h0:0≤cy) (h1:cy≤10000) (k:Nat):Calls Tryz.prog 109 #[.pointer (some ⟨kb,0,none⟩)] (w.drewN k) fun e w'=>e= .returned (I (cy*1440))∧∃m,w'=w.drewN m:=
 (y9 kb cy (w.drewN k) h h0 h1).mono fun _ _ ⟨h2,h3⟩=>⟨h2,k,h3⟩
theorem Ub {c:Cal} {r0 r1:Yr} {stop bg y:Int} {f:Nat} {ts res:List Tr} (h:vI c r0 r1 stop f bg y ts=res) (hb:bg<stop) (hf:(stop - bg).toNat≤f) (hy:12≤dI c y):
  ∃f',(stop - (bg+dI c y)).toNat≤f'∧vI c r0 r1 stop f' (bg+dI c y) (y+1) (vH c bg y r1 r0 (vH c bg y r0 r1 ts))=res:=by
 cases f with
 |zero=>omega
 |succ f=>exact ⟨f,by omega,by rw [vI,if_pos hb] at h;exact h⟩
theorem P7 {c:Cal} {r0 r1:Yr} {stop bg y:Int} {f:Nat} {ts res:List Tr} (h:vI c r0 r1 stop f bg y ts=res) (hb:¬bg<stop):ts=res:=by
 cases f with
 |zero=>exact h
 |succ f=>rw [vI,if_neg hb] at h;exact h
def JZ (rb zb yb yo:Nat) (mi of WW:Int) (yv:Value) (W:World):Prop:=
 W.cell? ⟨rb,3,none⟩=some (I mi)∧W.cell? ⟨rb,4,none⟩=some (I of)∧W.cell? ⟨zb,7,none⟩=some yv∧W.cell? ⟨yb,yo,none⟩=some (I WW)
theorem JK (c:Cal) (A R:Option Addr) (a r:Nat) (bg y:Int) (x:Yr) (w:World) (hc:gW c) (h:nX w w.heap.size A R c) (hb:0≤bg) (hb2:bg≤100000) (hr:yh x):
  Calls Tryz.prog 104 #[.agg (aG c A a R r),I bg,I y, .agg #[I x.month,I x.df,I x.dh,I x.minute,I x.off]] w (Gives (.tuple #[I (Va c bg y x).1, .bool (Va c bg y x).2]) w):=by
 have hm:=hr.mo;have hwk:=hr.wk;have hwd:=hr.wd;clear hr;obtain ⟨mo,wk,wd,mi,of⟩:=x;simp only at hm hwk hwd ⊢;have wL:Hid (∀W,Below w.heap.size w W→Calls Tryz.prog 119 #[.agg (aG c A a R r),I y,I 1] W (Gives (I (dn c y 1)) W)):=ae fun W hb=>IZ _ A R a r y 1 W hc (h.grow hb) (.inl rfl);have kH:Hid (∀W,Below w.heap.size w W→Calls Tryz.prog 119 #[.agg (aG c A a R r),I y,I mo] W (Gives (I (dn c y mo)) W)):=ae fun W hb=>IZ _ A R a r y mo W hc (h.grow hb) hm;have h1:=ku c y 1 hc (.inl rfl);have h2:=ku c y mo hc hm;obtain ⟨res,hres⟩:∃res,Va c bg y ⟨mo,wk,wd,mi,of⟩=res:=⟨_,rfl⟩;rw [hres];unfold Va FZ oM at hres;simp only at hres;obtain ⟨q,hq⟩:∃q,dn c y 1=q:=⟨_,rfl⟩;rw [hq] at wL h1 hres;obtain ⟨n,hn⟩:∃n,dn c y mo=n:=⟨_,rfl⟩;rw [hn] at kH h2 hres;obtain ⟨ep,lp,A',R',n0,n1,hcs⟩:∃ep lp,∃A' R':Option Addr,∃n m:Nat,aG c A a R r= #[I ep, .slice A' n a,I lp, .slice R' m r]:=⟨_,_,_,_,_,_,rfl⟩;rw [hcs] at wL kH ⊢;clear hcs hn hq hc h;rcases hm with rfl|rfl
 ·obtain ⟨p,hp⟩:∃p,(wd - bg)%7=p:=⟨_,rfl⟩;have hp0:0≤p∧p<7:=by omega
  obtain ⟨p2,hp2⟩:∃p,(bg+n - 1 - wd)%7=p:=⟨_,rfl⟩;have hp3:0≤p2∧p2<7:=by omega
  have ZF:=ae (fun W=>qi (wd - bg) W);have ZG:=ae (fun W=>qi (bg+n - 1 - wd) W);simp only [show ((1:Int)=2)=False from by simp,if_false] at hres;rw [hp] at ZF hres;rw [hp2] at ZG hres;clear hp hp2;by_cases h5:wk=5
  ·subst h5;rw [if_pos rfl] at hres;have jD:=ae hres;clear hres;have HV:=ae (pM.yC w 0 63 129 #[I ep, .slice A' n0 a,I lp, .slice R' n1 r] #[I 1,I 5,I wd,I mi,I of]);go_enter Tryz.func104,Tryz.ntmps104;go_wp2_with fail;generalize (w.alloc (.cells #[I ep, .slice A' n0 a,I lp, .slice R' n1 r] 63)).alloc (.cells #[I 1,I 5,I wd,I mi,I of] 129)=W0 at HV ⊢;have v0:W0.cell? ⟨w.heap.size,0,none⟩=some (I ep):=HV.out.a.2 0;have v1:W0.cell? ⟨w.heap.size,1,none⟩=some (.slice A' n0 a):=HV.out.a.2 1;have v2:W0.cell? ⟨w.heap.size,2,none⟩=some (I lp):=HV.out.a.2 2;have v3:W0.cell? ⟨w.heap.size,3,none⟩=some (.slice R' n1 r):=HV.out.a.2 3;have u0:W0.cell? ⟨w.heap.size+1,0,none⟩=some (I 1):=HV.out.b.2 0;have u1:W0.cell? ⟨w.heap.size+1,1,none⟩=some (I 5):=HV.out.b.2 1;have u2:W0.cell? ⟨w.heap.size+1,2,none⟩=some (I wd):=HV.out.b.2 2;refine wp_loop_rounds 1 ?_;rw [rounds_succ];go_wp2_with fail;refine (kH.out _ HV.out.up).mono ?_;rintro e w2 ⟨rfl,hb2⟩;have HX:=ae (HV.out.below hb2);clear v0 v1 v2 v3 u0 u1 u2 hb2 HV;have u1:w2.cell? ⟨w.heap.size+1,1,none⟩=some (I 5):=HX.out.b.2 1;have u2:w2.cell? ⟨w.heap.size+1,2,none⟩=some (I wd):=HX.out.b.2 2;go_wp2_with fail;refine (ZF.out _).mono ?_;rintro e w3 ⟨rfl,rfl⟩;go_wp2_with fail;refine (ZG.out _).mono ?_;rintro e w4 ⟨rfl,rfl⟩;go_wp2_with fail;go_ret2;exact ⟨by rw [←jD.out];rfl,HX.out.up⟩
  ·rw [if_neg h5] at hres;have jD:=ae hres;clear hres;have HV:=ae (pM.yC w 0 63 129 #[I ep, .slice A' n0 a,I lp, .slice R' n1 r] #[I 1,I wk,I wd,I mi,I of]);go_enter Tryz.func104,Tryz.ntmps104;go_wp2_with fail;generalize (w.alloc (.cells #[I ep, .slice A' n0 a,I lp, .slice R' n1 r] 63)).alloc (.cells #[I 1,I wk,I wd,I mi,I of] 129)=W0 at HV ⊢;have v0:W0.cell? ⟨w.heap.size,0,none⟩=some (I ep):=HV.out.a.2 0;have v1:W0.cell? ⟨w.heap.size,1,none⟩=some (.slice A' n0 a):=HV.out.a.2 1;have v2:W0.cell? ⟨w.heap.size,2,none⟩=some (I lp):=HV.out.a.2 2;have v3:W0.cell? ⟨w.heap.size,3,none⟩=some (.slice R' n1 r):=HV.out.a.2 3;have u0:W0.cell? ⟨w.heap.size+1,0,none⟩=some (I 1):=HV.out.b.2 0;have u1:W0.cell? ⟨w.heap.size+1,1,none⟩=some (I wk):=HV.out.b.2 1;have u2:W0.cell? ⟨w.heap.size+1,2,none⟩=some (I wd):=HV.out.b.2 2;refine wp_loop_rounds 1 ?_;rw [rounds_succ];go_wp2_with fail;refine (kH.out _ HV.out.up).mono ?_;rintro e w2 ⟨rfl,hb2⟩;have HX:=ae (HV.out.below hb2);clear v0 v1 v2 v3 u0 u1 u2 hb2 HV;have u1:w2.cell? ⟨w.heap.size+1,1,none⟩=some (I wk):=HX.out.b.2 1;have u2:w2.cell? ⟨w.heap.size+1,2,none⟩=some (I wd):=HX.out.b.2 2;go_wp2_with fail;refine (ZF.out _).mono ?_;rintro e w3 ⟨rfl,rfl⟩;go_wp2_with fail;go_ret2;exact ⟨by rw [←jD.out];rfl,HX.out.up⟩
 ·obtain ⟨p,hp⟩:∃p,(wd - (bg+q))%7=p:=⟨_,rfl⟩;have hp0:0≤p∧p<7:=by omega
  obtain ⟨p2,hp2⟩:∃p,((bg+q)+n - 1 - wd)%7=p:=⟨_,rfl⟩;have hp3:0≤p2∧p2<7:=by omega
  have ZF:=ae (fun W=>qi (wd - (bg+q)) W);have ZG:=ae (fun W=>qi ((bg+q)+n - 1 - wd) W);simp only [if_true] at hres;rw [hp] at ZF hres;rw [hp2] at ZG hres;clear hp hp2;by_cases h5:wk=5
  ·subst h5;rw [if_pos rfl] at hres;have jD:=ae hres;clear hres;have HV:=ae (pM.yC w 0 63 129 #[I ep, .slice A' n0 a,I lp, .slice R' n1 r] #[I 2,I 5,I wd,I mi,I of]);go_enter Tryz.func104,Tryz.ntmps104;go_wp2_with fail;generalize (w.alloc (.cells #[I ep, .slice A' n0 a,I lp, .slice R' n1 r] 63)).alloc (.cells #[I 2,I 5,I wd,I mi,I of] 129)=W0 at HV ⊢;have v0:W0.cell? ⟨w.heap.size,0,none⟩=some (I ep):=HV.out.a.2 0;have v1:W0.cell? ⟨w.heap.size,1,none⟩=some (.slice A' n0 a):=HV.out.a.2 1;have v2:W0.cell? ⟨w.heap.size,2,none⟩=some (I lp):=HV.out.a.2 2;have v3:W0.cell? ⟨w.heap.size,3,none⟩=some (.slice R' n1 r):=HV.out.a.2 3;have u0:W0.cell? ⟨w.heap.size+1,0,none⟩=some (I 2):=HV.out.b.2 0;have u1:W0.cell? ⟨w.heap.size+1,1,none⟩=some (I 5):=HV.out.b.2 1;have u2:W0.cell? ⟨w.heap.size+1,2,none⟩=some (I wd):=HV.out.b.2 2;refine wp_loop_rounds 2 ?_;rw [rounds_succ];go_wp2_with fail;refine (wL.out _ HV.out.up).mono ?_;rintro e w1 ⟨rfl,hb1⟩;have QO:=ae (HV.out.below hb1);clear v0 v1 v2 v3 u0 u1 u2 hb1 HV;have HV:=QO;have v0:w1.cell? ⟨w.heap.size,0,none⟩=some (I ep):=HV.out.a.2 0;have v1:w1.cell? ⟨w.heap.size,1,none⟩=some (.slice A' n0 a):=HV.out.a.2 1;have v2:w1.cell? ⟨w.heap.size,2,none⟩=some (I lp):=HV.out.a.2 2;have v3:w1.cell? ⟨w.heap.size,3,none⟩=some (.slice R' n1 r):=HV.out.a.2 3;have u0:w1.cell? ⟨w.heap.size+1,0,none⟩=some (I 2):=HV.out.b.2 0;have u1:w1.cell? ⟨w.heap.size+1,1,none⟩=some (I 5):=HV.out.b.2 1;have u2:w1.cell? ⟨w.heap.size+1,2,none⟩=some (I wd):=HV.out.b.2 2;go_wp2_with fail;rw [rounds_succ];go_wp2_with fail;refine (kH.out _ HV.out.up).mono ?_;rintro e w2 ⟨rfl,hb2⟩;have HX:=ae (HV.out.below hb2);clear v0 v1 v2 v3 u0 u1 u2 hb2 HV;have u1:w2.cell? ⟨w.heap.size+1,1,none⟩=some (I 5):=HX.out.b.2 1;have u2:w2.cell? ⟨w.heap.size+1,2,none⟩=some (I wd):=HX.out.b.2 2;go_wp2_with fail;refine (ZF.out _).mono ?_;rintro e w3 ⟨rfl,rfl⟩;go_wp2_with fail;refine (ZG.out _).mono ?_;rintro e w4 ⟨rfl,rfl⟩;go_wp2_with fail;go_ret2;exact ⟨by rw [←jD.out];rfl,HX.out.up⟩
  ·rw [if_neg h5] at hres;have jD:=ae hres;clear hres;have HV:=ae (pM.yC w 0 63 129 #[I ep, .slice A' n0 a,I lp, .slice R' n1 r] #[I 2,I wk,I wd,I mi,I of]);go_enter Tryz.func104,Tryz.ntmps104;go_wp2_with fail;generalize (w.alloc (.cells #[I ep, .slice A' n0 a,I lp, .slice R' n1 r] 63)).alloc (.cells #[I 2,I wk,I wd,I mi,I of] 129)=W0 at HV ⊢;have v0:W0.cell? ⟨w.heap.size,0,none⟩=some (I ep):=HV.out.a.2 0;have v1:W0.cell? ⟨w.heap.size,1,none⟩=some (.slice A' n0 a):=HV.out.a.2 1;have v2:W0.cell? ⟨w.heap.size,2,none⟩=some (I lp):=HV.out.a.2 2;have v3:W0.cell? ⟨w.heap.size,3,none⟩=some (.slice R' n1 r):=HV.out.a.2 3;have u0:W0.cell? ⟨w.heap.size+1,0,none⟩=some (I 2):=HV.out.b.2 0;have u1:W0.cell? ⟨w.heap.size+1,1,none⟩=some (I wk):=HV.out.b.2 1;have u2:W0.cell? ⟨w.heap.size+1,2,none⟩=some (I wd):=HV.out.b.2 2;refine wp_loop_rounds 2 ?_;rw [rounds_succ];go_wp2_with fail;refine (wL.out _ HV.out.up).mono ?_;rintro e w1 ⟨rfl,hb1⟩;have QO:=ae (HV.out.below hb1);clear v0 v1 v2 v3 u0 u1 u2 hb1 HV;have HV:=QO;have v0:w1.cell? ⟨w.heap.size,0,none⟩=some (I ep):=HV.out.a.2 0;have v1:w1.cell? ⟨w.heap.size,1,none⟩=some (.slice A' n0 a):=HV.out.a.2 1;have v2:w1.cell? ⟨w.heap.size,2,none⟩=some (I lp):=HV.out.a.2 2;have v3:w1.cell? ⟨w.heap.size,3,none⟩=some (.slice R' n1 r):=HV.out.a.2 3;have u0:w1.cell? ⟨w.heap.size+1,0,none⟩=some (I 2):=HV.out.b.2 0;have u1:w1.cell? ⟨w.heap.size+1,1,none⟩=some (I wk):=HV.out.b.2 1;have u2:w1.cell? ⟨w.heap.size+1,2,none⟩=some (I wd):=HV.out.b.2 2;go_wp2_with fail;rw [rounds_succ];go_wp2_with fail;refine (kH.out _ HV.out.up).mono ?_;rintro e w2 ⟨rfl,hb2⟩;have HX:=ae (HV.out.below hb2);clear v0 v1 v2 v3 u0 u1 u2 hb2 HV;have u1:w2.cell? ⟨w.heap.size+1,1,none⟩=some (I wk):=HX.out.b.2 1;have u2:w2.cell? ⟨w.heap.size+1,2,none⟩=some (I wd):=HX.out.b.2 2;go_wp2_with fail;refine (ZF.out _).mono ?_;rintro e w3 ⟨rfl,rfl⟩;go_wp2_with fail;go_ret2;exact ⟨by rw [←jD.out];rfl,HX.out.up⟩
def YM:List Int:= [0,60,120, -90,30,1080, -1080,90]
def nC (n:Nat):Int:=YM.getD (n%8) 0
theorem CJ (n:Nat): -1080≤nC n∧nC n≤1080:=by
 have h:n%8<8:=Nat.mod_lt _ (by omega);unfold nC;generalize n%8=k at h
 match k,h with
 |0,_=>decide
 |1,_=>decide
 |2,_=>decide
 |3,_=>decide
 |4,_=>decide
 |5,_=>decide
 |6,_=>decide
 |7,_=>decide
theorem xC (n:Nat) (w:World) (hn:n<256):Calls Tryz.prog 52 #[.int .u8 n] w (Gives (I (nC n)) w):=by
 have hm:Int.tmod (n:Int) 8=((n%8:Nat):Int):=by rw [Int.tmod_eq_emod_of_nonneg (by omega)];omega
 have h:n%8<8:=Nat.mod_lt _ (by omega);have HS:Hid (nC n=YM.getD (n%8) 0):=ae rfl;obtain ⟨V,hV⟩:∃v,nC n=v:=⟨_,rfl⟩;rw [hV] at HS ⊢;clear hV;generalize n%8=k at hm h HS;have hk:k=0∨k=1∨k=2∨k=3∨k=4∨k=5∨k=6∨k=7:=by omega
 rcases hk with rfl|rfl|rfl|rfl|rfl|rfl|rfl|rfl
 all_goals
  push_cast at hm
  go_enter Tryz.func52,Tryz.ntmps52;go_wp2_with fail;go_ret;exact ⟨by rw [HS.out];rfl,ag w _⟩
structure Eu where
 st:UInt8
 dO:List UInt8
 iy:List UInt8
 bh:UInt8
 a0:UInt8
 a1:UInt8
 a2:UInt8
 a3:UInt8
 b0:UInt8
 b1:UInt8
 b2:UInt8
 b3:UInt8
 cal:UInt8
 rules:Bool
def xe (dO:List UInt8):Nat→Int
 |0=>0
 |k+1=>xe dO k+2160+20*((dO[k]?.getD 0).toNat:Int)
def lY (dO iy:List UInt8):Nat→List Tr
 |0=> []
 |k+1=>lY dO iy k++ [⟨xe dO (k+1),nC (iy[k]?.getD 0).toNat⟩]
def lX (x:Eu):Nat:=Nat.min (Nat.min x.dO.length x.iy.length) 3
def uh (n:UInt8):Cal:=if n.toNat%2=1 then ⟨5,[7,8],1,[⟨2,((n.toNat / 2%2:Nat):Int),true⟩]⟩ else ⟨2,[7,6], -1,[]⟩
def pF (k:Int) (a b c d:UInt8):Yr:=⟨1+k,if d.toNat%2=1 then 5 else 1,((a.toNat%3:Nat):Int),((b.toNat*5:Nat):Int),nC (c.toNat%5)⟩
def Ny (x:Eu):Zn:=⟨uh x.cal,nC x.st.toNat,lY x.dO x.iy (lX x),xe x.dO (lX x)+2160+20*(x.bh.toNat:Int),[]⟩
def XJ (x:Eu):Zn:= {Ny x with aN:= [pF 0 x.a0 x.a1 x.a2 x.a3,pF 1 x.b0 x.b1 x.b2 x.b3]}
def jl (x:Eu):Zn:=if x.rules=true∧zM (XJ x)=0 then XJ x else Ny x
theorem uj (g o:List UInt8) (k:Nat):(lY g o k).length=k:=by
 induction k with
 |zero=>rfl
 |succ k ih=>simp [lY,ih]
theorem BX (g o:List UInt8) (k:Nat):∀j,j<k→(lY g o k)[j]? =some ⟨xe g (j+1),nC (o[j]?.getD 0).toNat⟩:=by
 induction k with
 |zero=>intro j hj;omega
 |succ k ih=>
  intro j hj;unfold lY;rcases Nat.lt_succ_iff_lt_or_eq.1 hj with h|rfl
  ·rw [List.getElem?_append_left (by rw [uj];exact h)];exact ih j h
  ·rw [List.getElem?_append_right (by rw [uj];exact Nat.le_refl _),uj,Nat.sub_self];rfl
theorem eu (b:UInt8):b.toNat<256:=UInt8.toNat_lt b
theorem BB (g:List UInt8) (k:Nat):xe g k+2160≤xe g (k+1)∧xe g (k+1)≤xe g k+7260:=by
 have h:(g[k]?.getD 0).toNat<256:=eu _;rw [show xe g (k+1)=xe g k+2160+20*((g[k]?.getD 0).toNat:Int) from rfl];omega
theorem FO (g:List UInt8):∀k:Nat,0≤xe g k∧xe g k≤7260*(k:Int):=by
 intro k
 induction k with
 |zero=>exact ⟨Int.le_refl _,by simp [xe]⟩
 |succ k ih=>have:=BB g k;omega
theorem RJ (g:List UInt8) (j k:Nat) (h:j≤k):xe g j≤xe g k:=by
 induction k with
 |zero=>rw [Nat.le_zero.1 h];exact Int.le_refl _
 |succ k ih=>
  rcases Nat.lt_or_eq_of_le h with h|rfl
  ·have:=BB g k;have:=ih (by omega);omega
  ·exact Int.le_refl _
theorem Ov (x:Eu):lX x≤3∧lX x≤x.dO.length∧lX x≤x.iy.length:=by
 unfold lX;have h1:=Nat.min_le_right (Nat.min x.dO.length x.iy.length) 3;have h2:=Nat.min_le_left (Nat.min x.dO.length x.iy.length) 3;have h3:=Nat.min_le_left x.dO.length x.iy.length;have h4:=Nat.min_le_right x.dO.length x.iy.length;exact ⟨h1,Nat.le_trans h2 h3,Nat.le_trans h2 h4⟩
theorem mcal_S (n:UInt8):gW (uh n):=by
 unfold uh;split
 ·refine ⟨by simp,rfl,by simp,by simp,by simp,by simp,?_⟩;intro r hr;rw [List.mem_singleton.1 hr];have:n.toNat / 2%2<2:=Nat.mod_lt _ (by omega);exact ⟨rfl,by simp only;omega,by simp only;omega⟩
 ·exact ⟨by simp,rfl,by simp,by simp,by simp,by simp,by simp⟩
theorem YI (k:Int) (hk:k=0∨k=1) (a b c d:UInt8):yh (pF k a b c d):=by
 have h1:a.toNat%3<3:=Nat.mod_lt _ (by omega);have h2:=eu b;refine ⟨by simp only [pF];omega,?_,by simp only [pF];omega,by simp only [pF];omega,CJ _⟩;simp only [pF];split<;>omega
theorem YP (x:Eu):uS (Ny x):=by
 have hc:=Ov x;have hb:=FO x.dO (lX x);have hy:=eu x.bh;have hl:(Ny x).trans.length=lX x:=uj _ _ _;refine ⟨mcal_S _,CJ _,?_,by rw [hl];exact hc.1,?_,?_, .inl rfl⟩
 ·show 0≤xe x.dO (lX x)+2160+20*(x.bh.toNat:Int)∧xe x.dO (lX x)+2160+20*(x.bh.toNat:Int)≤1000000;omega
 ·intro t ht;obtain ⟨j,hj⟩:=List.getElem?_of_mem ht;have hjl:j<lX x:=by rw [←hl];exact (eG.1 hj).1
  have h:=BX x.dO x.iy (lX x) j hjl;have h':(Ny x).trans[j]? =(lY x.dO x.iy (lX x))[j]? :=rfl;rw [h',h] at hj;injection hj with hj;subst hj;have h1:=FO x.dO (j+1);have h2:=RJ x.dO (j+1) (lX x) hjl;refine ⟨CJ _,h1.1,?_⟩;show xe x.dO (j+1)<xe x.dO (lX x)+2160+20*(x.bh.toNat:Int);omega
 ·intro i hi;rw [hl] at hi;have h1:=BX x.dO x.iy (lX x) i (by omega);have h2:=BX x.dO x.iy (lX x) (i+1) hi;have e:(Ny x).trans=lY x.dO x.iy (lX x):=rfl;unfold iT;rw [e,h1,h2];have:=BB x.dO (i+1);show xe x.dO (i+1)+2160≤xe x.dO (i+1+1);omega
theorem YQ (x:Eu):uS (XJ x):=by
 have h:=YP x;exact ⟨h.cal,h.start,h.hor,h.U7,h.tr,h.gap, .inr ⟨_,_,rfl,YI 0 (.inl rfl) _ _ _ _,YI 1 (.inr rfl) _ _ _ _⟩⟩
theorem TP (x:Eu):uS (jl x):=by
 unfold jl;split
 ·exact YQ x
 ·exact YP x
theorem uS.len {z:Zn} (h:uS z):pU z:=by
 have h1:=h.cal.mo;have h2:=h.cal.ru;have h3:=h.U7;refine ⟨by omega,by omega,by omega,?_⟩;rcases h.yr with e|⟨_,_,e,_,_⟩<;>rw [e]<;>simp
def lL (x:Eu) (G O:Option Addr) (gc oc:Nat):Array Value:= #[Extern.Stop.cell x.st, .slice G x.dO.length gc, .slice O x.iy.length oc,Extern.Stop.cell x.bh,Extern.Stop.cell x.a0,Extern.Stop.cell x.a1,Extern.Stop.cell x.a2,Extern.Stop.cell x.a3,Extern.Stop.cell x.b0,Extern.Stop.cell x.b1,Extern.Stop.cell x.b2,Extern.Stop.cell x.b3,Extern.Stop.cell x.cal, .bool x.rules]
def LZ (lo B g:Nat) (w:World) (A:Option Addr) (cs:List Value):Prop:=
 cs.length=0∨∃b off,A=some ⟨b,off,none⟩∧lo≤b∧b<B∧b≠g∧∀j u,cs[j]? =some u→w.cell? ⟨b,off+j,none⟩=some u
theorem LZ.aS {lo B g:Nat} {w w':World} {A:Option Addr} {cs:List Value} (h:LZ lo B g w A cs) (hb:∀k,lo≤k→k<B→k≠g→w'.heap[k]? =w.heap[k]?):LZ lo B g w' A cs:=by
 rcases h with h|⟨b,off,h1,h0,h2,h4,h5⟩
 ·exact .inl h
 ·exact .inr ⟨b,off,h1,h0,h2,h4,fun j u hu=>(World.cell?_of_block (a:=⟨b,off+j,none⟩) (hb b h0 h2 h4)).trans (h5 j u hu)⟩
theorem LZ.more {lo B B' g:Nat} {w:World} {A:Option Addr} {cs:List Value} (h:LZ lo B g w A cs) (hB:B≤B'):LZ lo B' g w A cs:=by
 rcases h with h|⟨b,off,h1,h0,h2,h4,h5⟩
 ·exact .inl h
 ·exact .inr ⟨b,off,h1,h0,by omega,h4,h5⟩
theorem LZ.at {lo B g:Nat} {w:World} {A:Option Addr} {cs:List Value} (h:LZ lo B g w A cs) (hB:B≤w.heap.size):aA w w.heap.size A cs:=by
 rcases h with h|⟨b,off,h1,h0,h2,h4,h5⟩
 ·exact .inl h
 ·exact .inr ⟨b,off,h1,by omega,h5⟩
theorem LZ.nil {lo B g:Nat} {w:World} {A:Option Addr}:LZ lo B g w A []:= .inl rfl
theorem LZ.eQ {lo g e size n c B base:Nat} {A:Option Addr} {w:World} {cs:List Value} (h:w.ownsRow base e size (.slice A n c) n cs) (h0:lo≤base) (hg:g<base) (hB:w.heap.size≤B):LZ lo B g w A cs:=by
 rcases h.2 with ⟨hv,hn⟩|⟨b,cap,cur,hv,hb,hh,_⟩
 ·refine .inl ?_;rw [h.1,hn,Nat.zero_mul]
 ·injection hv with h1 _ _;subst h1;have hl:=(bT.1 hh).1;exact .inr ⟨b,0,rfl,by omega,by omega,by omega,fun j u hu=>by rw [Nat.zero_add,←addr_add];exact h.cells (g:=b) rfl j u hu⟩
structure MZ (w:World) (xs:Array Value) (zb B:Nat) (zs:Array Value) (A R C:Option Addr) (mo ru tr:List Value) (W:World):Prop where
 x:Row W w.heap.size xs
 res:W.heap[w.heap.size+1]? =some (.cells jq 67 (0,0))
 z:W.heap[zb]? =some (.cells zs 67 (0,0))
 lo:w.heap.size+2≤zb
 hi:zb<B
 sz:B≤W.heap.size
 up:Below w.heap.size w W
 mon:LZ (w.heap.size+2) B zb W A mo
 rul:LZ (w.heap.size+2) B zb W R ru
 trn:LZ (w.heap.size+2) B zb W C tr
section
variable {w W W':World} {xs zs:Array Value} {zb B:Nat} {A R C:Option Addr} {mo ru tr:List Value}
theorem MZ.step (h:MZ w xs zb B zs A R C mo ru tr W) (ho:W'.os=W.os) (ht:W'.tape=W.tape) (hu:W'.output=W.output) (hs:W.heap.size≤W'.heap.size) (hb:∀k,k<B→k≠zb→W'.heap[k]? =W.heap[k]?) {zs':Array Value} (hz:W'.heap[zb]? =some (.cells zs' 67 (0,0))):MZ w xs zb B zs' A R C mo ru tr W':=by
 have h1:=h.lo;have h2:=h.hi;refine ⟨⟨dP h.x.1 hs,fun i=>(World.cell?_of_block (a:=⟨w.heap.size,i,none⟩) (hb _ (by show w.heap.size<B;omega) (by show w.heap.size≠zb;omega))).trans (h.x.2 i)⟩,(hb _ (by omega) (by omega)).trans h.res,hz,h.lo,h.hi,Nat.le_trans h.sz hs,?_,h.mon.aS fun k _=>hb k,h.rul.aS fun k _=>hb k,h.trn.aS fun k _=>hb k⟩;exact ⟨ho.trans h.up.os,ht.trans h.up.tape,hu.trans h.up.output,Nat.le_trans h.up.size hs,fun k hk=>(hb k (by omega) (by omega)).trans (h.up.block k hk)⟩
theorem MZ.grow (h:MZ w xs zb B zs A R C mo ru tr W) (hb:Below W.heap.size W W'):MZ w xs zb B zs A R C mo ru tr W':=
 h.step hb.os hb.tape hb.output hb.size (fun k hk _=>hb.block k (dP hk h.sz)) ((hb.block _ (dP h.hi h.sz)).trans h.z)
theorem MZ.store (h:MZ w xs zb B zs A R C mo ru tr W) (o:Nat) (v:Value):MZ w xs zb B (zs.setIfInBounds o v) A R C mo ru tr (W.setCell ⟨zb,o,none⟩ v):=
 h.step (W':=W.setCell ⟨zb,o,none⟩ v) rfl rfl rfl (by simp [World.setCell]) (fun k _ hk=>heap_setCell_other W ⟨zb,o,none⟩ k v hk) (heap_setCell_same W zb o _ _ _ h.z)
theorem MZ.grown (h:MZ w xs zb B zs A R C mo ru tr W) {row:Option Nat} (hg:W.grownBy W' row) (hr:∀g,row=some g→B≤g):MZ w xs zb B zs A R C mo ru tr W':=
 have hh:=h.hi;have hz:=h.sz
 h.step hg.os hg.tape hg.output hg.size (fun k hk _=>hg.block k (by omega) (fun e=>by have:=hr k e.symm;omega)) ((hg.block _ (by omega) (fun e=>by have:=hr zb e.symm;omega)).trans h.z)
theorem MZ.drew (h:MZ w xs zb B zs A R C mo ru tr W):MZ w xs zb B zs A R C mo ru tr W.drew:=h.grow (Below.refl _ W).drew
theorem MZ.cell (h:MZ w xs zb B zs A R C mo ru tr W) (i:Nat):W.cell? ⟨zb,i,none⟩=zs[i]? :=cell_of_row _ _ i _ _ _ h.z
theorem MZ.dZ (h:MZ w xs zb B zs A R C mo ru tr W) (i:Nat):W.frozen? ⟨zb,i,none⟩=false:=frozen_of_row _ _ i _ _ h.z
theorem MZ.done (h:MZ w xs zb B zs A R C mo ru tr W) (vs:Array Value):aA (W.setRow (w.heap.size+1) vs) (W.setRow (w.heap.size+1) vs).heap.size A mo∧aA (W.setRow (w.heap.size+1) vs) (W.setRow (w.heap.size+1) vs).heap.size R ru∧aA (W.setRow (w.heap.size+1) vs) (W.setRow (w.heap.size+1) vs).heap.size C tr∧Below w.heap.size w (W.setRow (w.heap.size+1) vs):=by
 have e:∀k,w.heap.size+2≤k→k<B→k≠zb→(W.setRow (w.heap.size+1) vs).heap[k]? =W.heap[k]? :=fun k hk _ _=>setRow_other _ _ k _ (by omega);have hs:B≤(W.setRow (w.heap.size+1) vs).heap.size:=by simpa [World.setRow] using h.sz
 exact ⟨(h.mon.aS e).at hs,(h.rul.aS e).at hs,(h.trn.aS e).at hs,below_setRow h.up (by omega) _⟩
theorem MZ.YO (h:MZ w xs zb B zs A R C mo ru tr W):zb<W.heap.size:=dP h.hi h.sz
end
end Go.Proofs.YtdibbemgpikgjaaGreatDoor
