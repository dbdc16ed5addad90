/- The texts Nf, Nh, Ng3, in this order. -/
import Derived.Test.YtdibbemgpikgjaaGreatDoorW00
import Derived.Shelf.SlSortCmp.NoneTotal
import Derived.Test.YtdibbemgpikgjaaGreatDoorW23
import Derived.Test.YtdibbemgpikgjaaGreatDoorW24
import Derived.Test.YtdibbemgpikgjaaGreatDoorW25
import Derived.Test.YtdibbemgpikgjaaGreatDoorW26
set_option maxRecDepth 10000
set_option maxHeartbeats 8000000
namespace Go.Proofs.YtdibbemgpikgjaaGreatDoor
open Go Go.RowKit
theorem Zt (c:Cal) (A R S:Option Addr) (a r k0 cp:Nat) (ss:List Int) (w:World) (hc:gW c) (hk:(k0:Int)=rM c+1) (hl:ss.length=k0) (hs:ss[k0 - 1]? =some (rJ c)) (hI:fG w w.heap.size S ss) (hkc:k0≤cp):Calls Tryz.prog 118 #[.agg (jq c A a R r (.slice S k0 cp))] w (Gives (.tuple #[I (rM c),I (rJ c)]) w):=by
 obtain ⟨k,rfl⟩:∃k,k0=k+1:=⟨k0 - 1,by
  have:1≤rM c:=by unfold rM;split<;>omega
  omega⟩
 rw [Nat.add_sub_cancel] at hs;have hky:rM c=(k:Int):=by omega
 have hkl:k<ss.length:=by omega
 obtain ⟨dd,hdd⟩:∃d,rJ c=d:=⟨_,rfl⟩;rw [hky,hdd];rw [hdd] at hs;rcases hI with h0|⟨b,off,rfl,hb,hcl⟩
 ·omega
 have f:w.cell? ⟨b,off+k,none⟩=some (I dd):=by rw [hcl k hkl,hs];rfl
 have hne:¬b=w.heap.size:=by omega
 have hk0:(0:Int)≤(k:Int):=by omega
 have hkb:(k:Int)≤2:=by
  have:rM c≤2:=by unfold rM;split<;>omega
  omega
 have hk1:(k:Int)<(k:Int)+1:=by omega
 obtain ⟨n,hn⟩:∃n,c.rules.length=n:=⟨_,rfl⟩;obtain ⟨ep,m0,m1,lp,rs,rfl,_,_,_,_,_⟩:=hc.form;simp only at hn;have e0:jq ⟨ep,[m0,m1],lp,rs⟩ A a R r (.slice (some ⟨b,off,none⟩) (k+1) cp)= #[I ep, .slice A 2 a,I lp, .slice R n r, .slice (some ⟨b,off,none⟩) (k+1) cp]:=by rw [←hn];rfl
 rw [e0];have HV:=ae (jX.start w #[I ep, .slice A 2 a,I lp, .slice R n r, .slice (some ⟨b,off,none⟩) (k+1) cp] 219);clear hc hcl hs hl e0 hn hdd hky hk;go_enter Tryz.func118,Tryz.ntmps118;go_wp2_with fail;generalize w.alloc (.cells #[I ep, .slice A 2 a,I lp, .slice R n r, .slice (some ⟨b,off,none⟩) (k+1) cp] 219)=W0 at HV ⊢;have g0:W0.cell? ⟨b,off+k,none⟩=some (I dd):=(HV.out.up.cell (p:=⟨b,off+k,none⟩) hb).trans f;have v1:W0.cell? ⟨w.heap.size,4,none⟩=some (.slice (some ⟨b,off,none⟩) (k+1) cp):=HV.out.row.2 4;clear f;go_wp2_with fail;go_quiet (fail);go_wp2_with fail;go_ret2;exact ⟨rfl,ah HV.out.up (below_drewN' _ _)⟩
theorem Ri (c:Cal) (A R:Option Addr) (a r:Nat) (w:World) (hc:gW c) (h:oq w w.heap.size A R c):Calls Tryz.prog 103 #[.agg (aF c A a R r)] w (Gives (.tuple #[I (rM c),I (rJ c),I 0]) w):=by
 have HOP:=ae (fun (W:World) (hb:Below w.heap.size w W)=>O6 c A R a r W hc (h.grow hb));have qH:=ae (fun (S:Option Addr) (k cp:Nat) (ss:List Int) (W:World)=>Zt c A R S a r k cp ss W hc);unfold OpnP at HOP;obtain ⟨yy,hyy⟩:∃y,rM c=y:=⟨_,rfl⟩;obtain ⟨dd,hdd⟩:∃d,rJ c=d:=⟨_,rfl⟩;rw [hyy,hdd] at HOP qH ⊢;obtain ⟨n,hn⟩:∃n,c.rules.length=n:=⟨_,rfl⟩;obtain ⟨ep,m0,m1,lp,rs,rfl,b1,b2,b3,b4,hrs⟩:=hc.form;simp only at hn;have e1:aF ⟨ep,[m0,m1],lp,rs⟩ A a R r= #[I ep, .slice A 2 a,I lp, .slice R n r]:=by rw [←hn];rfl
 have e2:∀S,jq ⟨ep,[m0,m1],lp,rs⟩ A a R r S= #[I ep, .slice A 2 a,I lp, .slice R n r,S]:=fun S=>by rw [←hn];rfl
 simp only [e1,e2] at HOP qH ⊢;have HV:=ae (jX.start w #[I ep, .slice A 2 a,I lp, .slice R n r] 63);clear hc h hn hrs e1 e2 hyy hdd b1 b2 b3 b4;go_enter Tryz.func103,Tryz.ntmps103;go_wp2_with fail;refine (HOP.out _ HV.out.up).mono ?_;rintro e w1 ⟨S,k,cp,ss,rfl,hk,hl,hs,hI,hkc,hb1⟩;have pO:=ae (HV.out.grow hb1);have HK:=ae hk;have HL:=ae hl;have HS:=ae hs;have HII:=ae hI;have Yv:=ae hkc;clear hb1 HV hk hl hs hI hkc;have hone:(#[I ep, .slice A 2 a,I lp, .slice R n r, .slice S k cp]:Array Value).all (·.oneCell')=true:=by simp [Value.oneCell']
 go_wp2_with (first
  |((with_reducible refine bn 219 ?_);refine aG rfl 219 rfl #[I 0, .slice none 0 0,I 0, .slice none 0 0, .slice none 0 0] (by kernel_rfl) ?_)
  |((with_reducible refine bW 219 ?_);go_must (refine wpList_store_row rfl _ _ _ rfl w1.heap.size #[I ep, .slice A 2 a,I lp, .slice R n r, .slice S k cp] rfl rfl 219 #[I 0, .slice none 0 0,I 0, .slice none 0 0, .slice none 0 0] (heap_alloc_last w1 _) (by kernel_rfl) rfl hone ?_))
  |((with_reducible refine dY 219 ?_);go_must (refine aQ rfl _ _ rfl w1.heap.size rfl #[I ep, .slice A 2 a,I lp, .slice R n r, .slice S k cp] (AV.pG (AV.new w1 #[I 0, .slice none 0 0,I 0, .slice none 0 0, .slice none 0 0] 219) #[I ep, .slice A 2 a,I lp, .slice R n r, .slice S k cp]).jg _ Tryz.underlying219 rfl (by kernel_rfl) ?_)))
 have hb2:Below w1.heap.size w1 ((w1.alloc (.cells #[I 0, .slice none 0 0,I 0, .slice none 0 0, .slice none 0 0] 219)).setRow w1.heap.size #[I ep, .slice A 2 a,I lp, .slice R n r, .slice S k cp]):=aB (ag w1 _) (Nat.le_refl _) _;generalize (w1.alloc (.cells #[I 0, .slice none 0 0,I 0, .slice none 0 0, .slice none 0 0] 219)).setRow w1.heap.size #[I ep, .slice A 2 a,I lp, .slice R n r, .slice S k cp]=W2 at hb2 ⊢;have nK:=ae (pO.out.grow hb2);have HI2:=ae ((HII.out.keep hb2).more hb2.size);clear hb2;refine (qH.out S k cp ss W2 HK.out HL.out HS.out HI2.out Yv.out).mono ?_;rintro e w3 ⟨rfl,hb3⟩;have wV:=ae (nK.out.grow hb3);clear hb3;go_wp2_with fail
 go_ret3
 exact ⟨rfl,wV.out.up⟩
structure qI (w:World) (zc:List Value) (cy:Int) (A:Option Addr) (n c:Nat) (ts:List Tr) (W:World):Prop where
 lo:Below w.heap.size w W
 z:AV w.heap.size 67 zc.toArray W
 k:AV (w.heap.size+1) 206 (zc++ [Value.slice A n c,I cy]).toArray W
 own:gm (w.heap.size+2) W A n c ts
 len:ts.length=n
section
variable {w W W':World} {zc:List Value} {cy:Int} {A:Option Addr} {n c:Nat} {ts:List Tr}
theorem qI.grow (h:qI w zc cy A n c ts W) (hb:Below W.heap.size W W'):qI w zc cy A n c ts W':=⟨ah h.lo hb,h.z.below hb,h.k.below hb,h.own.below hb,h.len⟩
theorem qI.drew (h:qI w zc cy A n c ts W):qI w zc cy A n c ts W.drew:=h.grow ((Below.refl _ W).drew)
theorem qI.drewN (h:qI w zc cy A n c ts W) (q:Nat):qI w zc cy A n c ts (W.drewN q):=h.grow (below_drewN' _ _)
theorem qI.X9 (h:qI w zc cy A n c ts W) (h8:zc.length=8) (v:Int):qI w zc v A n c ts (W.setCell ⟨w.heap.size+1,9,none⟩ (I v)):=by
 refine ⟨h.lo.setCell (p:=⟨w.heap.size+1,9,none⟩) (by show w.heap.size≤w.heap.size+1;omega) _,h.z.far (by omega) 9 _,?_,dW (p:=⟨w.heap.size+1,9,none⟩) h.own (eQ h.own _ (by show w.heap.size+1<_;omega)),h.len⟩;have h2:=h.k.put 9 (I v);have e:(zc++ [Value.slice A n c,I cy]).toArray.setIfInBounds 9 (I v)=(zc++ [Value.slice A n c,I v]).toArray:=by
  match zc,h8 with
  | [_,_,_,_,_,_,_,_],_=>rfl
 rw [e] at h2;exact h2
theorem qI.add {Wb w6:World} {gg cap:Nat} {x:Tr} (h:qI w zc cy A n c ts W) (h8:zc.length=8) (FQ:Wb=W.alloc (.cells #[I x.at_,I x.off] 127))
  (hown:w6.ownsRow (w.heap.size+2) 127 2 (.slice (Option.some ⟨gg,0,none⟩) (n+1) cap) (n+1) (ts.flatMap Tr.cells++ [I x.at_,I x.off])) (hg:Wb.grownBy w6 (Value.slice A n c).ownBlock):
  qI w zc cy (Option.some ⟨gg,0,none⟩) (n+1) cap (ts++ [x]) (w6.setCell ⟨w.heap.size+1,8,none⟩ (.slice (Option.some ⟨gg,0,none⟩) (n+1) cap)):=by
 have hsb:Wb.heap.size=W.heap.size+1:=by rw [FQ];simp
 have hlt:=h.k.lt;have hbl:∀b,b<W.heap.size→Option.some b≠(Value.slice A n c).ownBlock→w6.heap[b]? =W.heap[b]? :=fun b hb hn=>
  (hg.block b (by omega) hn).trans (by rw [FQ];exact Below.heap_alloc W _ b hb)
 have hlow:=eQ h.own;have hset:∀b,b≠w.heap.size+1→(w6.setCell ⟨w.heap.size+1,8,none⟩ (.slice (Option.some ⟨gg,0,none⟩) (n+1) cap)).heap[b]? =w6.heap[b]? :=fun b hb=>heap_setCell_other w6 ⟨w.heap.size+1,8,none⟩ b _ hb;have h1:Below w.heap.size w Wb:=by rw [FQ];exact ah h.lo (ag W _)
 have hob:Wb.ownsRow (w.heap.size+2) 127 2 (.slice A n c) n (ts.flatMap Tr.cells):=by rw [FQ];exact own_below h.own (ag W _)
 have hk6:AV (w.heap.size+1) 206 (zc++ [Value.slice A n c,I cy]).toArray w6:=⟨(hbl _ hlt (hlow _ (by omega))).trans h.k.var⟩;have hup:Below w.heap.size w w6:=dm h1 (bD hob (by omega)) h1.size hg;have hgl:=kH hown;refine ⟨hup.setCell (p:=⟨w.heap.size+1,8,none⟩) (by show w.heap.size≤w.heap.size+1;omega) _,⟨(hset _ (by omega)).trans ((hbl _ (by omega) (hlow _ (by omega))).trans h.z.var)⟩,?_,?_,by rw [aZ,h.len];rfl⟩
 ·have h2:=hk6.put 8 (.slice (Option.some ⟨gg,0,none⟩) (n+1) cap);have e:(zc++ [Value.slice A n c,I cy]).toArray.setIfInBounds 8 (.slice (Option.some ⟨gg,0,none⟩) (n+1) cap)=(zc++ [Value.slice (Option.some ⟨gg,0,none⟩) (n+1) cap,I cy]).toArray:=by
   match zc,h8 with
   | [_,_,_,_,_,_,_,_],_=>rfl
  rw [e] at h2;exact h2
 ·unfold gm;have e:(ts++ [x]).flatMap Tr.cells=ts.flatMap Tr.cells++ [I x.at_,I x.off]:=by simp [Tr.cells]
  rw [e];exact dW (p:=⟨w.heap.size+1,8,none⟩) hown (fun e=>by
   have:w.heap.size+1=gg:=by simpa [Value.ownBlock] using e
   omega)
theorem qI.sorted {us:List Tr} (h:qI w zc cy A n c ts W) (hl:us.length=n) (ho:gm (w.heap.size+2) W' A n c us) (hg:W.grownBy W' (Value.slice A n c).ownBlock):qI w zc cy A n c us W':=by
 have hlow:=eQ h.own;have hlt:=h.k.lt;exact ⟨dm h.lo (bD h.own (by omega)) h.lo.size hg,⟨(hg.block _ (by omega) (hlow _ (by omega))).trans h.z.var⟩,⟨(hg.block _ hlt (hlow _ (by omega))).trans h.k.var⟩,ho,hl⟩
end
theorem MC {lo n c:Nat} {A:Option Addr} {w:World} {ts:List Tr} (h:gm lo w A n c ts) (hl:ts.length=n) (hn:n≤1000):
  Calls Tryz.prog 106 #[.slice A n c, .func (.func 107) #[] #[]] w fun e w'=>
   e= .returned (.tuple #[])∧∃us:List Tr,us.Perm ts∧us.Pairwise (fun a b=>a.at_≤b.at_)∧gm lo w' A n c us∧w.grownBy w' (Value.slice A n c).ownBlock:=by
 by_cases h0:n=0
 ·subst h0;have ht:ts= []:=List.eq_nil_of_length_eq_zero hl;subst ht;refine (Go.Proofs.AnyF.slices_SortFunc_none {TE with} A c _ w).mono ?_;rintro e w' ⟨rfl,rfl⟩;exact ⟨rfl,[],List.Perm.refl _,List.Pairwise.nil,h,⟨rfl,rfl,rfl,Nat.le_refl _,fun _ _ _=>rfl⟩⟩
 ·obtain ⟨g,rfl⟩:∃g,A=some ⟨g,0,none⟩:=by
   rcases h.2 with ⟨hv,hz⟩|⟨g,cap,cur,hv,_⟩
   ·exact absurd hz h0
   ·injection hv with h1 _ _;exact ⟨g,h1⟩
  exact MF h hl hn
theorem zf (kb:Nat) (cy:Int) (w:World) (h:w.cell? ⟨kb,9,none⟩=some (I cy)) (h0:0≤cy) (h1:cy≤10000):Calls Tryz.prog 109 #[.pointer (some ⟨kb,0,none⟩)] w fun e w'=>e= .returned (I (cy*1440))∧w'=w:=by
 go_enter Tryz.func109,Tryz.ntmps109;go_wp2_with fail;go_ret;exact ⟨rfl,rfl⟩
theorem qG (kb:Nat) (cy:Int) (w:World) (h:w.cell? ⟨kb,9,none⟩=some (I cy)) (h0:0≤cy) (h1:cy≤10000) (k:Nat):Calls Tryz.prog 109 #[.pointer (some ⟨kb,0,none⟩)] (w.drewN k) fun e w'=>e= .returned (I (cy*1440))∧∃m,w'=w.drewN m:=
 (zf kb cy (w.drewN k) h h0 h1).mono fun _ _ ⟨h2,h3⟩=>⟨h2,k,h3⟩
theorem Tu {c:Cal} {r0 r1:Yr} {stop bg y:Int} {f:Nat} {ts res:List Tr} (h:vN c r0 r1 stop f bg y ts=res) (hb:bg<stop) (hf:(stop - bg).toNat≤f) (hy:12≤dG c y):
  ∃f',(stop - (bg+dG c y)).toNat≤f'∧vN c r0 r1 stop f' (bg+dG c y) (y+1) (vM c bg y r1 r0 (vM c bg y r0 r1 ts))=res:=by
 cases f with
 |zero=>omega
 |succ f=>exact ⟨f,by omega,by rw [vN,if_pos hb] at h;exact h⟩
theorem PD {c:Cal} {r0 r1:Yr} {stop bg y:Int} {f:Nat} {ts res:List Tr} (h:vN c r0 r1 stop f bg y ts=res) (hb:¬bg<stop):ts=res:=by
 cases f with
 |zero=>exact h
 |succ f=>rw [vN,if_neg hb] at h;exact h
def JM (rb zb yb yo:Nat) (mi of V7:Int) (yv:Value) (W:World):Prop:=
 W.cell? ⟨rb,3,none⟩=some (I mi)∧W.cell? ⟨rb,4,none⟩=some (I of)∧W.cell? ⟨zb,7,none⟩=some yv∧W.cell? ⟨yb,yo,none⟩=some (I V7)
theorem Jv (c:Cal) (A R:Option Addr) (a r:Nat) (bg y:Int) (x:Yr) (w:World) (hc:gW c) (h:oq w w.heap.size A R c) (hb:0≤bg) (hb2:bg≤100000) (hr:yj x):
  Calls Tryz.prog 104 #[.agg (aF c A a R r),I bg,I y, .agg #[I x.month,I x.cZ,I x.df,I x.minute,I x.off]] w (Gives (.tuple #[I (UL c bg y x).1, .bool (UL c bg y x).2]) w):=by
 have hm:=hr.mo;have hwk:=hr.wk;have hwd:=hr.wd;clear hr;obtain ⟨mo,wk,wd,mi,of⟩:=x;simp only at hm hwk hwd ⊢;have wY:Hid (∀W,Below w.heap.size w W→Calls Tryz.prog 119 #[.agg (aF c A a R r),I y,I 1] W (Gives (I (dB c y 1)) W)):=ae fun W hb=>IL _ A R a r y 1 W hc (h.grow hb) (.inl rfl);have kK:Hid (∀W,Below w.heap.size w W→Calls Tryz.prog 119 #[.agg (aF c A a R r),I y,I mo] W (Gives (I (dB c y mo)) W)):=ae fun W hb=>IL _ A R a r y mo W hc (h.grow hb) hm;have h1:=ku c y 1 hc (.inl rfl);have h2:=ku c y mo hc hm;obtain ⟨res,hres⟩:∃res,UL c bg y ⟨mo,wk,wd,mi,of⟩=res:=⟨_,rfl⟩;rw [hres];unfold UL FI oV at hres;simp only at hres;obtain ⟨q,hq⟩:∃q,dB c y 1=q:=⟨_,rfl⟩;rw [hq] at wY h1 hres;obtain ⟨n,hn⟩:∃n,dB c y mo=n:=⟨_,rfl⟩;rw [hn] at kK h2 hres;obtain ⟨ep,lp,A',R',n0,n1,hcs⟩:∃ep lp,∃A' R':Option Addr,∃n m:Nat,aF c A a R r= #[I ep, .slice A' n a,I lp, .slice R' m r]:=⟨_,_,_,_,_,_,rfl⟩;rw [hcs] at wY kK ⊢;clear hcs hn hq hc h;rcases hm with rfl|rfl
 ·obtain ⟨p,hp⟩:∃p,(wd - bg)%7=p:=⟨_,rfl⟩;have hp0:0≤p∧p<7:=by omega
  obtain ⟨p2,hp2⟩:∃p,(bg+n - 1 - wd)%7=p:=⟨_,rfl⟩;have hp3:0≤p2∧p2<7:=by omega
  have YZ:=ae (fun W=>qm (wd - bg) W);have Y0:=ae (fun W=>qm (bg+n - 1 - wd) W);simp only [show ((1:Int)=2)=False from by simp,if_false] at hres;rw [hp] at YZ hres;rw [hp2] at Y0 hres;clear hp hp2;by_cases h5:wk=5
  ·subst h5;rw [if_pos rfl] at hres;have jw:=ae hres;clear hres;have HV:=ae (pV.yE w 0 63 129 #[I ep, .slice A' n0 a,I lp, .slice R' n1 r] #[I 1,I 5,I wd,I mi,I of]);go_enter Tryz.func104,Tryz.ntmps104;go_wp2_with fail;generalize (w.alloc (.cells #[I ep, .slice A' n0 a,I lp, .slice R' n1 r] 63)).alloc (.cells #[I 1,I 5,I wd,I mi,I of] 129)=W0 at HV ⊢;have v0:W0.cell? ⟨w.heap.size,0,none⟩=some (I ep):=HV.out.a.2 0;have v1:W0.cell? ⟨w.heap.size,1,none⟩=some (.slice A' n0 a):=HV.out.a.2 1;have v2:W0.cell? ⟨w.heap.size,2,none⟩=some (I lp):=HV.out.a.2 2;have v3:W0.cell? ⟨w.heap.size,3,none⟩=some (.slice R' n1 r):=HV.out.a.2 3;have u0:W0.cell? ⟨w.heap.size+1,0,none⟩=some (I 1):=HV.out.b.2 0;have u1:W0.cell? ⟨w.heap.size+1,1,none⟩=some (I 5):=HV.out.b.2 1;have u2:W0.cell? ⟨w.heap.size+1,2,none⟩=some (I wd):=HV.out.b.2 2;refine wp_loop_rounds 1 ?_;rw [rounds_succ];go_wp2_with fail;refine (kK.out _ HV.out.up).mono ?_;rintro e w2 ⟨rfl,hb2⟩;have HX:=ae (HV.out.below hb2);clear v0 v1 v2 v3 u0 u1 u2 hb2 HV;have u1:w2.cell? ⟨w.heap.size+1,1,none⟩=some (I 5):=HX.out.b.2 1;have u2:w2.cell? ⟨w.heap.size+1,2,none⟩=some (I wd):=HX.out.b.2 2;go_wp2_with fail;refine (YZ.out _).mono ?_;rintro e w3 ⟨rfl,rfl⟩;go_wp2_with fail;refine (Y0.out _).mono ?_;rintro e w4 ⟨rfl,rfl⟩;go_wp2_with fail;go_ret2;exact ⟨by rw [←jw.out];rfl,HX.out.up⟩
  ·rw [if_neg h5] at hres;have jw:=ae hres;clear hres;have HV:=ae (pV.yE w 0 63 129 #[I ep, .slice A' n0 a,I lp, .slice R' n1 r] #[I 1,I wk,I wd,I mi,I of]);go_enter Tryz.func104,Tryz.ntmps104;go_wp2_with fail;generalize (w.alloc (.cells #[I ep, .slice A' n0 a,I lp, .slice R' n1 r] 63)).alloc (.cells #[I 1,I wk,I wd,I mi,I of] 129)=W0 at HV ⊢;have v0:W0.cell? ⟨w.heap.size,0,none⟩=some (I ep):=HV.out.a.2 0;have v1:W0.cell? ⟨w.heap.size,1,none⟩=some (.slice A' n0 a):=HV.out.a.2 1;have v2:W0.cell? ⟨w.heap.size,2,none⟩=some (I lp):=HV.out.a.2 2;have v3:W0.cell? ⟨w.heap.size,3,none⟩=some (.slice R' n1 r):=HV.out.a.2 3;have u0:W0.cell? ⟨w.heap.size+1,0,none⟩=some (I 1):=HV.out.b.2 0;have u1:W0.cell? ⟨w.heap.size+1,1,none⟩=some (I wk):=HV.out.b.2 1;have u2:W0.cell? ⟨w.heap.size+1,2,none⟩=some (I wd):=HV.out.b.2 2;refine wp_loop_rounds 1 ?_;rw [rounds_succ];go_wp2_with fail;refine (kK.out _ HV.out.up).mono ?_;rintro e w2 ⟨rfl,hb2⟩;have HX:=ae (HV.out.below hb2);clear v0 v1 v2 v3 u0 u1 u2 hb2 HV;have u1:w2.cell? ⟨w.heap.size+1,1,none⟩=some (I wk):=HX.out.b.2 1;have u2:w2.cell? ⟨w.heap.size+1,2,none⟩=some (I wd):=HX.out.b.2 2;go_wp2_with fail;refine (YZ.out _).mono ?_;rintro e w3 ⟨rfl,rfl⟩;go_wp2_with fail;go_ret2;exact ⟨by rw [←jw.out];rfl,HX.out.up⟩
 ·obtain ⟨p,hp⟩:∃p,(wd - (bg+q))%7=p:=⟨_,rfl⟩;have hp0:0≤p∧p<7:=by omega
  obtain ⟨p2,hp2⟩:∃p,((bg+q)+n - 1 - wd)%7=p:=⟨_,rfl⟩;have hp3:0≤p2∧p2<7:=by omega
  have YZ:=ae (fun W=>qm (wd - (bg+q)) W);have Y0:=ae (fun W=>qm ((bg+q)+n - 1 - wd) W);simp only [if_true] at hres;rw [hp] at YZ hres;rw [hp2] at Y0 hres;clear hp hp2;by_cases h5:wk=5
  ·subst h5;rw [if_pos rfl] at hres;have jw:=ae hres;clear hres;have HV:=ae (pV.yE w 0 63 129 #[I ep, .slice A' n0 a,I lp, .slice R' n1 r] #[I 2,I 5,I wd,I mi,I of]);go_enter Tryz.func104,Tryz.ntmps104;go_wp2_with fail;generalize (w.alloc (.cells #[I ep, .slice A' n0 a,I lp, .slice R' n1 r] 63)).alloc (.cells #[I 2,I 5,I wd,I mi,I of] 129)=W0 at HV ⊢;have v0:W0.cell? ⟨w.heap.size,0,none⟩=some (I ep):=HV.out.a.2 0;have v1:W0.cell? ⟨w.heap.size,1,none⟩=some (.slice A' n0 a):=HV.out.a.2 1;have v2:W0.cell? ⟨w.heap.size,2,none⟩=some (I lp):=HV.out.a.2 2;have v3:W0.cell? ⟨w.heap.size,3,none⟩=some (.slice R' n1 r):=HV.out.a.2 3;have u0:W0.cell? ⟨w.heap.size+1,0,none⟩=some (I 2):=HV.out.b.2 0;have u1:W0.cell? ⟨w.heap.size+1,1,none⟩=some (I 5):=HV.out.b.2 1;have u2:W0.cell? ⟨w.heap.size+1,2,none⟩=some (I wd):=HV.out.b.2 2;refine wp_loop_rounds 2 ?_;rw [rounds_succ];go_wp2_with fail;refine (wY.out _ HV.out.up).mono ?_;rintro e w1 ⟨rfl,hb1⟩;have Qp:=ae (HV.out.below hb1);clear v0 v1 v2 v3 u0 u1 u2 hb1 HV;have HV:=Qp;have v0:w1.cell? ⟨w.heap.size,0,none⟩=some (I ep):=HV.out.a.2 0;have v1:w1.cell? ⟨w.heap.size,1,none⟩=some (.slice A' n0 a):=HV.out.a.2 1;have v2:w1.cell? ⟨w.heap.size,2,none⟩=some (I lp):=HV.out.a.2 2;have v3:w1.cell? ⟨w.heap.size,3,none⟩=some (.slice R' n1 r):=HV.out.a.2 3;have u0:w1.cell? ⟨w.heap.size+1,0,none⟩=some (I 2):=HV.out.b.2 0;have u1:w1.cell? ⟨w.heap.size+1,1,none⟩=some (I 5):=HV.out.b.2 1;have u2:w1.cell? ⟨w.heap.size+1,2,none⟩=some (I wd):=HV.out.b.2 2;go_wp2_with fail;rw [rounds_succ];go_wp2_with fail;refine (kK.out _ HV.out.up).mono ?_;rintro e w2 ⟨rfl,hb2⟩;have HX:=ae (HV.out.below hb2);clear v0 v1 v2 v3 u0 u1 u2 hb2 HV;have u1:w2.cell? ⟨w.heap.size+1,1,none⟩=some (I 5):=HX.out.b.2 1;have u2:w2.cell? ⟨w.heap.size+1,2,none⟩=some (I wd):=HX.out.b.2 2;go_wp2_with fail;refine (YZ.out _).mono ?_;rintro e w3 ⟨rfl,rfl⟩;go_wp2_with fail;refine (Y0.out _).mono ?_;rintro e w4 ⟨rfl,rfl⟩;go_wp2_with fail;go_ret2;exact ⟨by rw [←jw.out];rfl,HX.out.up⟩
  ·rw [if_neg h5] at hres;have jw:=ae hres;clear hres;have HV:=ae (pV.yE w 0 63 129 #[I ep, .slice A' n0 a,I lp, .slice R' n1 r] #[I 2,I wk,I wd,I mi,I of]);go_enter Tryz.func104,Tryz.ntmps104;go_wp2_with fail;generalize (w.alloc (.cells #[I ep, .slice A' n0 a,I lp, .slice R' n1 r] 63)).alloc (.cells #[I 2,I wk,I wd,I mi,I of] 129)=W0 at HV ⊢;have v0:W0.cell? ⟨w.heap.size,0,none⟩=some (I ep):=HV.out.a.2 0;have v1:W0.cell? ⟨w.heap.size,1,none⟩=some (.slice A' n0 a):=HV.out.a.2 1;have v2:W0.cell? ⟨w.heap.size,2,none⟩=some (I lp):=HV.out.a.2 2;have v3:W0.cell? ⟨w.heap.size,3,none⟩=some (.slice R' n1 r):=HV.out.a.2 3;have u0:W0.cell? ⟨w.heap.size+1,0,none⟩=some (I 2):=HV.out.b.2 0;have u1:W0.cell? ⟨w.heap.size+1,1,none⟩=some (I wk):=HV.out.b.2 1;have u2:W0.cell? ⟨w.heap.size+1,2,none⟩=some (I wd):=HV.out.b.2 2;refine wp_loop_rounds 2 ?_;rw [rounds_succ];go_wp2_with fail;refine (wY.out _ HV.out.up).mono ?_;rintro e w1 ⟨rfl,hb1⟩;have Qp:=ae (HV.out.below hb1);clear v0 v1 v2 v3 u0 u1 u2 hb1 HV;have HV:=Qp;have v0:w1.cell? ⟨w.heap.size,0,none⟩=some (I ep):=HV.out.a.2 0;have v1:w1.cell? ⟨w.heap.size,1,none⟩=some (.slice A' n0 a):=HV.out.a.2 1;have v2:w1.cell? ⟨w.heap.size,2,none⟩=some (I lp):=HV.out.a.2 2;have v3:w1.cell? ⟨w.heap.size,3,none⟩=some (.slice R' n1 r):=HV.out.a.2 3;have u0:w1.cell? ⟨w.heap.size+1,0,none⟩=some (I 2):=HV.out.b.2 0;have u1:w1.cell? ⟨w.heap.size+1,1,none⟩=some (I wk):=HV.out.b.2 1;have u2:w1.cell? ⟨w.heap.size+1,2,none⟩=some (I wd):=HV.out.b.2 2;go_wp2_with fail;rw [rounds_succ];go_wp2_with fail;refine (kK.out _ HV.out.up).mono ?_;rintro e w2 ⟨rfl,hb2⟩;have HX:=ae (HV.out.below hb2);clear v0 v1 v2 v3 u0 u1 u2 hb2 HV;have u1:w2.cell? ⟨w.heap.size+1,1,none⟩=some (I wk):=HX.out.b.2 1;have u2:w2.cell? ⟨w.heap.size+1,2,none⟩=some (I wd):=HX.out.b.2 2;go_wp2_with fail;refine (YZ.out _).mono ?_;rintro e w3 ⟨rfl,rfl⟩;go_wp2_with fail;go_ret2;exact ⟨by rw [←jw.out];rfl,HX.out.up⟩
end Go.Proofs.YtdibbemgpikgjaaGreatDoor
