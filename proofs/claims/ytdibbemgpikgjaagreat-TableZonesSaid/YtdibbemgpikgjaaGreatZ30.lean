/- The texts Rc, in this order. -/
import Derived.Test.YtdibbemgpikgjaaGreatZ00
import Derived.Test.YtdibbemgpikgjaaGreatZ29
set_option maxRecDepth 10000
set_option maxHeartbeats 8000000
namespace Go.Proofs.YtdibbemgpikgjaaGreat
open Go Go.RowKit
def WB (z:Zn) (t:Int) (w:World) (e:Ending) (w':World):Prop:=e= .returned (.tuple #[.agg (trV (mO z t)), .bool (mO z t).isSome])∧Below w.heap.size w w'
theorem Hm {z:Zn} {t:Int} {x:Tr} (h:TA z t=some x):mO z t=some x:=by
 unfold mO;rw [h]
theorem Hl {z:Zn} {t:Int} (h:TA z t=none):mO z t=RV z t:=by
 unfold mO;rw [h]
theorem EW {ts:List Tr} {t:Int} {i n:Nat} (hl:ts.length=n) (hi:i≤n) (h1:∀j,j<i→df ts j<t) (h2:∀j,i≤j→j<n→t≤df ts j):rY ts t=if i<n∧df ts i=t then some i else if i=0 then none else some (i - 1):=by
 unfold rY;rw [ZC hl hi h1 h2,hl]
theorem Un {q sz t t0:Int} (hs:1440≤sz) (h:t0≤t) (hq:max (t - t0) 0 / sz=q):0≤q∧q≤t - t0∧0≤q*sz∧q*sz≤t - t0∧t - t0<q*sz+sz:=by
 rw [Int.max_eq_left (by omega)] at hq;have h1:(t - t0) / sz*sz+(t - t0)%sz=t - t0:=Int.ediv_mul_add_emod _ _;have h2:=Int.emod_nonneg (t - t0) (show sz≠0 by omega);have h3:=Int.emod_lt_of_pos (t - t0) (show 0<sz by omega);have h4:0≤(t - t0) / sz:=Int.ediv_nonneg (by omega) (by omega);have h5:(t - t0) / sz≤t - t0:=Int.ediv_le_self _ (by omega);have h6:0≤(t - t0) / sz*sz:=Int.mul_nonneg h4 (by omega);rw [hq] at*;omega
theorem SB {z:Zn} {t q sz bs:Int} {n k:Nat} (hn:(dP z).length=n) (h0:0<n) (h1:df (dP z) 0≤t) (hsz:dL z*1440=sz) (hq:kQ (dP z) sz t=q) (hb:q*sz=bs) (hl:rY (dP z) (t - bs)=some k):
  TA z t=if z.hor≤df (dP z) k+bs then some ⟨df (dP z) k+bs,fD (dP z) k⟩ else none:=by
 unfold TA;rw [hn,if_pos ⟨h0,h1⟩,hsz,hq,hb,hl]
structure Uh (w W:World):Prop where
 r:AV w.heap.size 100 #[I 0,I 0] W
 lo:Below w.heap.size w W
theorem Uh.grow {w W W':World} (h:Uh w W) (hb:Below W.heap.size W W'):Uh w W':=⟨h.r.below hb,ah h.lo hb⟩
theorem last_any (z:Zn) (kb:Nat) (t:Int) (w:World) (hm:nO z) (hg:iE (dP z) (dL z*1440)=true) (h:lK z kb w) (ht: -1000000000≤t∧t≤1000000000):
  Calls Tryz.prog 55 #[pt kb,I t] w (WB z t w):=by
 obtain ⟨n0,n1,n3,a,r,c0,d0,c,lo,hi,A0,R0,A,C,D0,hk⟩:=h;have hyb:=(sU z hm).1;have hyl:=(sU z hm).2;have hc1:=lD z hm.cal;have hc2:=(jP z hm.cal).2;have hho:=hm.hor;have Du:=ae (FH hg);have Ti:=ae (MR hm);have WA:=ae (fun k=>lQ k hyb);have JH:=hm.MV;obtain ⟨n,hn⟩:∃n,(dP z).length=n:=⟨_,rfl⟩;obtain ⟨m,hmm⟩:∃n,z.trans.length=n:=⟨_,rfl⟩;obtain ⟨cy,hcy⟩:∃cy,dL z=cy:=⟨_,rfl⟩;obtain ⟨ho,EP⟩:∃cy,z.hor=cy:=⟨_,rfl⟩;rw [hn,hmm,hcy,EP] at hk;rw [hn] at hyl Du;rw [hmm] at JH Ti;rw [hcy] at hc1 hc2;rw [EP] at hho;have HN:=ae hn;have HM:=ae hmm;have HC:=ae hcy;have HH:=ae EP;obtain ⟨ep,QK⟩:∃cy,z.cal.aN=cy:=⟨_,rfl⟩;obtain ⟨lp,hlp⟩:∃cy,z.cal.bu=cy:=⟨_,rfl⟩;obtain ⟨st,hst⟩:∃cy,z.start=cy:=⟨_,rfl⟩;rw [QK,hlp,hst] at hk;have HK:Hid (∀W,Below w.heap.size w W→zQ lo hi W.heap.size kb [I ep, .slice A0 n0 a,I lp, .slice R0 n1 r,I st, .slice C m c0,I ho, .slice D0 n3 d0, .slice A n c,I cy] A n (dP z) C m z.trans W):=ae fun W hb=>hk.far (fun k hk _=>hb.block k hk) hb.size;have HTI:Hid ((Tryz.prog.info? 100).map (·.size)=some ([I 0,I 0]:List Value).length):=ae (by kernel_rfl);have H0:Hid (Uh w (w.alloc (.cells #[I 0,I 0] 100))):=ae ⟨AV.new w _ _,ag w _⟩;clear hn hmm hcy EP QK hlp hst hk hm hg hyb;go_enter Tryz.func55,Tryz.ntmps55;go_upto_region 1 with (first|((with_reducible refine bn 100 ?_);refine aG rfl 100 rfl #[I 0,I 0] (by kernel_rfl) ?_));generalize w.alloc (.cells #[I 0,I 0] 100)=W0 at H0 ⊢;go_upto_region 2 with fail
 go_cut [29] (fun v wx=>v= .bool (decide (0<n∧df (dP z) 0≤t))∧Uh w wx)
 case first=>
  have hk0:=HK.out W0 H0.out.lo;have k8:W0.cell? ⟨kb,8,none⟩=some (.slice A n c):=hk0.k.cell 8;by_cases hn0:n=0
  ·subst hn0;clear hk0;go_wp2_with fail;go_meet;exact ⟨rfl,H0.out⟩
  ·have i0:(0:Int)<(n:Int):=by omega
   obtain ⟨g,rfl,hgb,hcl⟩:∃g,A=some ⟨g,0,none⟩∧g<W0.heap.size∧vN W0 g 0 n (dP z):=by
    rcases hk0.ys with h1|⟨g,h1,h2,h3⟩
    ·exact absurd h1 hn0
    ·exact ⟨g,h1,h2.1,fun k hk=>by rw [Nat.zero_add];exact h3 k hk⟩
   have e0:W0.cell? ⟨g,0,none⟩=some (I (df (dP z) 0)):=by have:=(hcl 0 (by omega)).1;rwa [Nat.zero_mul,Nat.add_zero] at this
   obtain ⟨t0,ht0⟩:∃x,df (dP z) 0=x:=⟨_,rfl⟩;rw [ht0] at e0;have HT0:=ae ht0;have h0n:0<n:=by omega
   clear hcl hk0 ht0;by_cases hlt:t0≤t
   ·go_wp2_with fail;go_meet;exact ⟨by rw [HT0.out];simp [h0n,hlt],H0.out⟩
   ·go_wp2_with fail;go_meet;exact ⟨by rw [HT0.out];simp [hlt],H0.out⟩
 case rest=>
  obtain ⟨rfl,hls⟩:=hcut;have H1:=ae hls;clear hls H0;obtain ⟨b,hb⟩:∃b,decide (0<n∧df (dP z) 0≤t)=b:=⟨_,rfl⟩;rw [hb];have HB:=ae hb;clear hb;go_upto_if 29 with fail
  go_cut [7] (fun _ wx=>TA z t=none∧Uh w wx)
  case first=>
   cases b with
   |false=>
    go_wp2_with fail;go_meet;exact ⟨by unfold TA;rw [if_neg (by rw [HN.out];exact of_decide_eq_false HB.out)],H1.out⟩
   |true=>
    have hk0:=HK.out wc H1.out.lo;have k8:wc.cell? ⟨kb,8,none⟩=some (.slice A n c):=hk0.k.cell 8;have k9:wc.cell? ⟨kb,9,none⟩=some (I cy):=hk0.k.cell 9;obtain ⟨h0n,hlt⟩:=of_decide_eq_true HB.out;obtain ⟨g,rfl,hgb,hcl⟩:∃g,A=some ⟨g,0,none⟩∧g<wc.heap.size∧vN wc g 0 n (dP z):=by
     rcases hk0.ys with h1|⟨g,h1,h2,h3⟩
     ·omega
     ·exact ⟨g,h1,h2.1,fun k hk=>by rw [Nat.zero_add];exact h3 k hk⟩
    have e0:wc.cell? ⟨g,0,none⟩=some (I (df (dP z) 0)):=by have:=(hcl 0 (by omega)).1;rwa [Nat.zero_mul,Nat.add_zero] at this
    obtain ⟨t0,ht0⟩:∃x,df (dP z) 0=x:=⟨_,rfl⟩;have ht0b:=WA.out 0;rw [ht0] at e0 hlt ht0b;have HT0:=ae ht0;have fU:=ae hcl;obtain ⟨sz,hsz⟩:∃s,cy*1440=s:=⟨_,rfl⟩;obtain ⟨q,hq⟩:∃q,max (t - t0) 0 / sz=q:=⟨_,rfl⟩;have hqb:=Un (by omega) hlt hq;obtain ⟨bs,hbs⟩:∃b,q*sz=b:=⟨_,rfl⟩;rw [hbs] at hqb;obtain ⟨_,hq2,hq3,hq4,hq5⟩:=hqb;have HQ:=ae hq;have dM:=ae hsz;have FX:=ae hbs;clear hcl hk0 ht0 hq hsz hbs;go_wp2_with fail;refine (D8 kb g n c cy t t0 wc k8 k9 e0 h0n hc1 (by omega) ht (by omega)).mono ?_;rw [dM.out,HQ.out];rintro e w1 ⟨rfl,m1,rfl⟩;have H2:Hid (Uh w (wc.drewN m1)):=ae (H1.out.grow (below_drewN' _ _));have FZ:Hid (vN (wc.drewN m1) g 0 n (dP z)):=ae fun k hk=>fU.out k hk;have k8':(wc.drewN m1).cell? ⟨kb,8,none⟩=some (.slice (some ⟨g,0,none⟩) n c):=k8;have k9':(wc.drewN m1).cell? ⟨kb,9,none⟩=some (I cy):=k9;have QL:g<(wc.drewN m1).heap.size:=hgb;clear k8 k9 e0 fU hgb H1;generalize wc.drewN m1=w2 at H2 FZ k8' k9' QL ⊢;go_wp2_with fail;refine (oW kb cy w2 k9' (by omega) (by omega)).mono ?_;rw [dM.out];rintro e w2 ⟨rfl,rfl⟩;have hbs:=FX.out;have hwb:IntKind.i64.wrap bs=bs:=by rw [IntKind.wrap_i64];omega
    have hwt:IntKind.i64.wrap (t - bs)=t - bs:=by rw [IntKind.wrap_i64];omega
    clear k9';go_wp2_with fail;refine (yh (some ⟨g,0,none⟩) g 0 n c (dP z) (t - bs) w2 HN.out (by omega) (.inr ⟨rfl,QL,FZ.out⟩) Du.out).mono ?_;rintro e w4 ⟨i,fb,hin,rfl,hfb,hlow,hhigh,hb4⟩;have hlk:=EW HN.out hin hlow hhigh;have hf0:¬(i<n∧df (dP z) i=t - bs)→1≤i:=fun hf=>by
     rcases Nat.eq_zero_or_pos i with h|h
     ·exfalso;have h1:=hhigh 0 (by omega) h0n;have h2:=HT0.out;exact hf ⟨by omega,by rw [h];omega⟩
     ·exact h
    have H4:=ae (H2.out.grow hb4);have Pq:=ae (FZ.out.keep hb4 QL);have hgb4:g<w4.heap.size:=dR QL hb4.size;obtain ⟨k,hkn,hlk2,hkf⟩:∃k,k<n∧rY (dP z) (t - bs)=some k∧(fb=true∧k=i∨fb=false∧i=k+1):=by
     by_cases hf:i<n∧df (dP z) i=t - bs
     ·exact ⟨i,hf.1,by rw [hlk,if_pos hf], .inl ⟨hfb.2 hf,rfl⟩⟩
     ·have:=hf0 hf;exact ⟨i - 1,by omega,by rw [hlk,if_neg hf,if_neg (by omega)], .inr ⟨by cases fb with|true=>exact absurd (hfb.1 rfl) hf|false=>rfl,by omega⟩⟩
    have XK:=ae hlk2;clear hlk hlk2 hf0 hlow hhigh hb4 hfb H2 FZ k8' QL;have HKF:=ae hkf;clear hkf hbs;go_upto_if 49 with fail
    go_cut [8] (fun v wx=>v=I (k:Nat)∧wx=w4)
    case first=>
     rcases HKF.out with ⟨rfl,rfl⟩|⟨rfl,rfl⟩
     ·go_wp2_with fail;go_meet;exact ⟨rfl,rfl⟩
     ·go_wp2_with fail;go_meet;exact ⟨by go_num,rfl⟩
    case rest=>
     obtain ⟨rfl,rfl⟩:=hcut;clear HKF;have k8:wc.cell? ⟨kb,8,none⟩=some (.slice (some ⟨g,0,none⟩) n c):=(HK.out wc H4.out.lo).k.cell 8;have HR:Hid (wc.rangeAt g (0+k*2) [I (df (dP z) k),I (fD (dP z) k)]):=ae (Pq.out.row hkn);rw [Nat.zero_add] at HR;obtain ⟨xa,hxa⟩:∃x,df (dP z) k=x:=⟨_,rfl⟩;obtain ⟨xo,hxo⟩:∃x,fD (dP z) k=x:=⟨_,rfl⟩;have hxb:=WA.out k;rw [hxa] at hxb;rw [hxa,hxo] at HR;have HY:Hid (TA z t=if ho≤xa+bs then some ⟨xa+bs,xo⟩ else none):=ae (by
      have h:=SB HN.out h0n (by rw [HT0.out];exact hlt) (by rw [HC.out];exact dM.out) (by rw [←wO,HT0.out];exact HQ.out) FX.out XK.out;rw [HH.out,hxa,hxo] at h;exact h)
     have i0:(0:Int)≤(k:Int):=by omega
     have i1:(k:Int)<(n:Int):=by omega
     have FW:=ae (heap_alloc_last wc (.cells #[I 0,I 0] 100));clear XK hxa hxo;go_upto_region 8 with (first
      |((with_reducible refine fO 100 ?_);go_must (refine bC rfl _ _ rfl g (k*2) rfl [I xa,I xo] HR.out _ Tryz.underlying100 rfl HTI.out ?_))
      |((with_reducible refine bn 100 ?_);refine aG rfl 100 rfl #[I 0,I 0] (by kernel_rfl) ?_)
      |((with_reducible refine dO 100 ?_);go_must (refine wpList_store_row rfl _ _ _ rfl wc.heap.size #[I xa,I xo] rfl rfl 100 #[I 0,I 0] FW.out (by kernel_rfl) rfl (by simp [Value.oneCell']) ?_)))
     try simp only [Act.put]
     have HX:=ae (AV.lq (AV.new wc #[I 0,I 0] 100) #[I xa,I xo]);have rC:=ae (H4.out.grow (aC (ag wc (.cells #[I 0,I 0] 100)) (Nat.le_refl _) #[I xa,I xo]));have hvb:w.heap.size<wc.heap.size:=H4.out.r.lt;clear FW HR k8;generalize (wc.alloc (.cells #[I 0,I 0] 100)).setRow wc.heap.size #[I xa,I xo]=W5 at HX rC ⊢;generalize wc.heap.size=vb at HX hvb ⊢;have x0:W5.cell? ⟨vb,0,none⟩=some (I xa):=HX.out.cell 0;have k6:W5.cell? ⟨kb,6,none⟩=some (I ho):=(HK.out W5 rC.out.lo).k.cell 6;have hwx:IntKind.i64.wrap (xa+bs)=xa+bs:=by rw [IntKind.wrap_i64];omega
     go_quiet (fail);obtain ⟨W6,hW6⟩:∃W,W5.drewN nq=W:=⟨_,rfl⟩;rw [hW6];have nU:Hid (AV vb 100 #[I xa,I xo] W6):=ae (by rw [←hW6];exact HX.out.below (below_drewN' _ _));have H6:Hid (Uh w W6):=ae (by rw [←hW6];exact rC.out.grow (below_drewN' _ _));clear hW6 x0 k6 HX rC;by_cases hle:ho≤xa+bs
     ·have x0:W6.cell? ⟨vb,0,none⟩=some (I xa):=nU.out.cell 0;have xf:W6.frozen? ⟨vb,0,none⟩=false:=nU.out.gm 0;go_upto_region 10 with fail;have jl:Hid (AV vb 100 #[I (xa+bs),I xo] (W6.setCell ⟨vb,0,none⟩ (I (xa+bs)))):=ae ⟨heap_setCell_same W6 vb 0 _ _ _ nU.out.var⟩;have H7:Hid (Uh w (W6.setCell ⟨vb,0,none⟩ (I (xa+bs)))):=ae ⟨⟨(heap_setCell_other W6 ⟨vb,0,none⟩ w.heap.size _ (by show w.heap.size≠vb;omega)).trans H6.out.r.var⟩,H6.out.lo.setCell (p:=⟨vb,0,none⟩) (Nat.le_of_lt hvb) _⟩;clear x0 xf nU H6;generalize W6.setCell ⟨vb,0,none⟩ (I (xa+bs))=W7 at jl H7 ⊢;go_wp2_with (first
       |((with_reducible refine fO 100 ?_);go_must (refine aW rfl _ _ rfl vb rfl #[I (xa+bs),I xo] jl.out.jK _ Tryz.underlying100 rfl (by kernel_rfl) ?_))
       |((with_reducible refine dO 100 ?_);go_must (refine wpList_store_row rfl _ _ _ rfl w.heap.size #[I (xa+bs),I xo] rfl rfl 100 #[I 0,I 0] H7.out.r.var (by kernel_rfl) rfl (by simp [Value.oneCell']) ?_)))
      refine bodyPost_ret (v:= .tuple #[.agg #[I (xa+bs),I xo], .bool true]) (bF rfl _ _ w.heap.size _ #[I (xa+bs),I xo] (0,0) _ rfl (setRow_heap _ _ _ _ _ _ H7.out.r.var) Tryz.underlying100 rfl (by kernel_rfl) _ rfl) rfl ?_;exact ⟨by rw [Hm (HY.out.trans (if_pos hle))];rfl,aC H7.out.lo (Nat.le_refl _) _⟩
     ·go_wp2_with fail;go_meet;exact ⟨HY.out.trans (if_neg (by omega)),H6.out⟩
  case rest=>
   obtain ⟨hyn,hls⟩:=hcut;have HYN:=ae (Hl hyn);have H2:=ae hls;clear hyn hls H1 HB;have hk0:=HK.out wc H2.out.lo;have k5:wc.cell? ⟨kb,5,none⟩=some (.slice C m c0):=hk0.k.cell 5;obtain ⟨cb,off,hC⟩:∃b off,m=0∨(C=some ⟨b,off,none⟩∧b<wc.heap.size∧vN wc b off m z.trans):=by
    rcases hk0.tr with h1|⟨b,off,h1,h2,h3⟩
    ·exact ⟨0,0, .inl h1⟩
    ·exact ⟨b,off, .inr ⟨h1,h2.1,h3⟩⟩
   have zU:=ae hC;clear hC hk0;go_wp2_with fail;refine (yh C cb off m c0 z.trans t wc HM.out (by omega) zU.out Ti.out).mono ?_;rintro e w4 ⟨i,fb,hin,rfl,hfb,hlow,hhigh,hb4⟩;have XK:=ae (EW HM.out hin hlow hhigh);have HFB:=ae hfb;have H4:=ae (H2.out.grow hb4);have oM:Hid (m=0∨(C=some ⟨cb,off,none⟩∧vN w4 cb off m z.trans)):=ae (by
    rcases zU.out with h|⟨h1,h2,h3⟩
    ·exact .inl h
    ·exact .inr ⟨h1,h3.keep hb4 h2⟩)
   clear hlow hhigh hb4 hfb H2 zU k5;by_cases hnone:fb=false∧i=0
   ·obtain ⟨rfl,rfl⟩:=hnone;have PG:Hid (mO z t=none):=ae (by
     have hf:¬(0<m∧df z.trans 0=t):=fun h=>by have:=HFB.out.2 h;simp at this
     rw [HYN.out];unfold RV;rw [XK.out,if_neg hf,if_pos rfl];rfl)
    clear hin;go_wp2_with (first
     |((with_reducible refine iI 100 ?_);go_must (refine bY rfl _ rfl #[I 0,I 0] (by kernel_rfl) ?_))
     |((with_reducible refine dO 100 ?_);go_must (refine wpList_store_row rfl _ _ _ rfl w.heap.size #[I 0,I 0] rfl rfl 100 #[I 0,I 0] H4.out.r.var (by kernel_rfl) rfl (by simp [Value.oneCell']) ?_)))
    refine bodyPost_ret (v:= .tuple #[.agg #[I 0,I 0], .bool false]) (bF rfl _ _ w.heap.size _ #[I 0,I 0] (0,0) _ rfl (setRow_heap _ _ _ _ _ _ H4.out.r.var) Tryz.underlying100 rfl (by kernel_rfl) _ rfl) rfl ?_;exact ⟨by rw [PG.out];rfl,aC H4.out.lo (Nat.le_refl _) _⟩
   ·obtain ⟨k,hkn,hlk2,hkf⟩:∃k,k<m∧rY z.trans t=some k∧(fb=true∧k=i∨fb=false∧i=k+1):=by
     by_cases hf:i<m∧df z.trans i=t
     ·exact ⟨i,hf.1,by rw [XK.out,if_pos hf], .inl ⟨HFB.out.2 hf,rfl⟩⟩
     ·have hff:fb=false:=by cases fb with|true=>exact absurd (HFB.out.1 rfl) hf|false=>rfl
      have hi0:¬i=0:=fun h=>hnone ⟨hff,h⟩;exact ⟨i - 1,by omega,by rw [XK.out,if_neg hf,if_neg hi0], .inr ⟨hff,by omega⟩⟩
    obtain ⟨rfl,hta⟩:C=some ⟨cb,off,none⟩∧vN w4 cb off m z.trans:=by
     rcases oM.out with h|h
     ·omega
     ·exact h
    have HR:Hid (w4.rangeAt cb (off+k*2) [I (df z.trans k),I (fD z.trans k)]):=ae (hta.row hkn);have BU:Hid (mO z t=some ⟨df z.trans k,fD z.trans k⟩):=ae (by
     rw [HYN.out];unfold RV;rw [hlk2];rfl)
    obtain ⟨xa,hxa⟩:∃x,df z.trans k=x:=⟨_,rfl⟩;obtain ⟨xo,hxo⟩:∃x,fD z.trans k=x:=⟨_,rfl⟩;rw [hxa,hxo] at HR BU;have HKF:=ae hkf;clear hnone hlk2 hkf hta hxa hxo XK HFB hin;go_upto_if 87 with fail
    go_cut [11] (fun v wx=>v=I (k:Nat)∧wx=w4)
    case first=>
     rcases HKF.out with ⟨rfl,rfl⟩|⟨rfl,rfl⟩
     ·go_wp2_with fail;go_meet;exact ⟨rfl,rfl⟩
     ·go_wp2_with fail;go_meet;exact ⟨by go_num,rfl⟩
    case rest=>
     obtain ⟨rfl,rfl⟩:=hcut;have k5:wc.cell? ⟨kb,5,none⟩=some (.slice (some ⟨cb,off,none⟩) m c0):=(HK.out wc H4.out.lo).k.cell 5;have i0:(0:Int)≤(k:Int):=by omega
     have i2:¬(k:Int)<0:=by omega
     have i1:(k:Int)<(m:Int):=by omega
     go_wp2_with (first
      |((with_reducible refine fO 100 ?_);go_must (refine bC rfl _ _ rfl cb (off+k*2) rfl [I xa,I xo] HR.out _ Tryz.underlying100 rfl HTI.out ?_))
      |((with_reducible refine dO 100 ?_);go_must (refine wpList_store_row rfl _ _ _ rfl w.heap.size #[I xa,I xo] rfl rfl 100 #[I 0,I 0] H4.out.r.var (by kernel_rfl) rfl (by simp [Value.oneCell']) ?_)))
     refine bodyPost_ret (v:= .tuple #[.agg #[I xa,I xo], .bool true]) (bF rfl _ _ w.heap.size _ #[I xa,I xo] (0,0) _ rfl (setRow_heap _ _ _ _ _ _ H4.out.r.var) Tryz.underlying100 rfl (by kernel_rfl) _ rfl) rfl ?_;exact ⟨by rw [BU.out];rfl,aC H4.out.lo (Nat.le_refl _) _⟩
end Go.Proofs.YtdibbemgpikgjaaGreat
