/- The texts Jj, Jk, in this order. -/
import Derived.Test.YtdibbemgpikgjaaGreatW00
import Derived.Test.YtdibbemgpikgjaaGreatW31
import Derived.Test.YtdibbemgpikgjaaGreatW37
set_option maxRecDepth 10000
set_option maxHeartbeats 8000000
namespace Go.Proofs.YtdibbemgpikgjaaGreat
open Go Go.RowKit
abbrev SL:= {x:Tr // -4000000000000000≤x.at_∧x.at_≤4000000000000000}
theorem XW (kb g n c:Nat) (cy t t0:Int) (w:World) (h8:w.cell? ⟨kb,8,none⟩=some (.slice (some ⟨g,0,none⟩) n c)) (h9:w.cell? ⟨kb,9,none⟩=some (I cy)) (h0:w.cell? ⟨g,0,none⟩=some (I t0)) (hn:0<n) (hc1:1≤cy) (hc2:cy≤2000000)
  (ht: -2251799813685248≤t∧t≤2251799813685248) (ht0: -100000≤t0∧t0≤10000000000):Calls Tryz.prog 58 #[.pointer (some ⟨kb,0,none⟩),I t] w fun e w'=>e= .returned (I (max (t - t0) 0 / (cy*1440)))∧∃m,w'=w.drewN m:=by
 have q1:¬cy*1440=0:=by omega
 have q2:¬cy*1440= -1:=by omega
 go_enter Tryz.func58,Tryz.ntmps58;go_wp2_with fail;go_quiet ((go_at_call 59;exact wH _ cy w h9 (by omega) (by omega) _));go_wp2_with fail;go_ret;exact ⟨rfl,_,rfl⟩
theorem UK (kb g n c:Nat) (cy t t0:Int) (w:World) (h8:w.cell? ⟨kb,8,none⟩=some (.slice (some ⟨g,0,none⟩) n c)) (h9:w.cell? ⟨kb,9,none⟩=some (I cy)) (h0:w.cell? ⟨g,0,none⟩=some (I t0)) (hn:0<n) (hc1:1≤cy) (hc2:cy≤2000000)
  (ht: -2251799813685248≤t∧t≤2251799813685248) (ht0: -100000≤t0∧t0≤10000000000) (k:Nat):Calls Tryz.prog 58 #[.pointer (some ⟨kb,0,none⟩),I t] (w.drewN k) fun e w''=>e= .returned (I (max (t - t0) 0 / (cy*1440)))∧∃m,w''=w.drewN m:=
 Calls.quiet_of (XW kb g n c cy t t0 (w.drewN k) h8 h9 h0 hn hc1 hc2 ht ht0)
theorem U4 {ts:List Tr} {sz t q:Int} (hq:pI ts sz t=q) (hs:1440≤sz) (ha: -100000≤fU ts 0) (ht0: -2251799813685248≤t) (ht:t≤2251799813685248):0≤q∧q≤2300000000000000∧0≤q*sz∧q*sz≤2252000000000000∧t≤fU ts 0+(q+1)*sz∧(q+1)*sz=q*sz+sz:=by
 have e1:(q+1)*sz=q*sz+sz:=by rw [Int.add_mul,Int.one_mul]
 unfold pI at hq;split at hq
 ·rename_i h;rw [Int.tdiv_eq_ediv_of_nonneg (by omega)] at hq;have h1:=Int.emod_add_mul_ediv (t - fU ts 0) sz;have h2:=Int.emod_nonneg (t - fU ts 0) (show sz≠0 by omega);have h3:=Int.emod_lt_of_pos (t - fU ts 0) (show 0<sz by omega);have h4:0≤(t - fU ts 0) / sz:=Int.ediv_nonneg (by omega) (by omega);rw [hq] at h1 h4;rw [Int.mul_comm] at h1;have h5:q*1440≤q*sz:=Int.mul_le_mul_of_nonneg_left hs h4;generalize q*sz=p at*;refine ⟨h4,?_,?_,?_,?_,e1⟩<;>omega
 ·subst hq;rw [Int.zero_mul] at*;refine ⟨?_,?_,?_,?_,?_,e1⟩<;>omega
theorem Me (N B kb cb tb n m n0 n1 n3 a r c0 d0 c:Nat) (A0 R0 A C D0:Option Addr) (ep lp st ho cy:Int) (ts trs:List Tr) (w0:World) (h:FrS B kb cb tb [I ep, .slice A0 n0 a,I lp, .slice R0 n1 r,I st, .slice C m c0,I ho, .slice D0 n3 d0, .slice A n c,I cy] A n ts C m trs ho w0) (hB:B≤w0.heap.size) (hl:ts.length=n) (hlt:trs.length=m)
  (htr:∀x∈trs,x.at_<ho) (htb:vY ts) (hc1:1≤cy) (hc2:cy≤2000000) (hh0: -2251799813685248≤ho) (hh1:ho≤2251799813685248) (hn:n≤10000000) (hm:m≤100000) (hN1:1≤N):
  I5 Fence.wide N Tryz.prog 57 #[.pointer (some ⟨cb,0,none⟩), .pointer (some ⟨tb,0,none⟩)] (fun x:SL=> #[.agg #[I x.1.at_,I x.1.off]]) (fun xs=>xs= []∧n=0) (fun pre=>n≠0∧pre.map (·.1)= [(dY ts (cy*1440) ho).1]) (fun pre=>pre= []) B tb w0:=by
 intro l J Jx W hW hJ _ hG hY h0;have hfr:=h.keep (hW.mono hB);have hsz:B≤W.heap.size:=Nat.le_trans hB hW.size;have HJ:Hid (∀W',Below W.heap.size W W'→J [] W'):=ae (fun W' hb=>hJ [] W W' none h0 (BX hb) (fun r e=>nomatch e));have Vy:Hid (∀W',Below W.heap.size W W'→FrS B kb cb tb [I ep, .slice A0 n0 a,I lp, .slice R0 n1 r,I st, .slice C m c0,I ho, .slice D0 n3 d0, .slice A n c,I cy] A n ts C m trs ho W'):=ae (fun W' hb=>hfr.keep (hb.mono hsz));have HG:=ae hG;have HY:=ae hY;have tK:=ae htb;have HTR:Hid (∀k,k<m→fU trs k<ho):=ae (fun k hk=>by rw [Gt (by omega)];exact htr _ (List.getElem_mem _));have HL:=ae hl;clear h hJ h0 hfr hG hY htb htr hW hl hlt;obtain ⟨sz,hszq⟩:∃s,cy*1440=s:=⟨_,rfl⟩;have hs1:1440≤sz∧sz≤2880000000:=by omega
 have dR:=ae hszq;rw [hszq];clear hszq;have ha0:=xk 0 tK.out;obtain ⟨q,hq⟩:∃q,pI ts sz ho=q:=⟨_,rfl⟩;have htd:=U4 hq hs1.1 ha0.1 hh0 hh1;have HQ:=ae hq;obtain ⟨b0,hb0⟩:∃b,q*sz=b:=⟨_,rfl⟩;obtain ⟨z0,hz0⟩:∃z,fU ts 0=z:=⟨_,rfl⟩;have HZ0:=ae hz0;have HB0:=ae hb0;obtain ⟨_,_,hq3,hq4,hq5,hq6⟩:=htd;rw [hq6] at hq5;have HQ6:=ae hq6;rw [hb0] at hq3 hq4 hq5;rw [hz0] at hq5 ha0;have HMX:Hid (max (ho - z0) 0 / sz=q):=ae (by rw [←HZ0.out,U5];exact hq);clear hq hb0 hz0 hq6;refine callsIn_wide.2 ?_;show Calls Tryz.prog _ #[.func (.yield l) #[] #[], .pointer (some ⟨cb,0,none⟩), .pointer (some ⟨tb,0,none⟩)] W _;have hs0:=Vy.out W (Below.refl _ _);have p1:W.cell? ⟨cb,0,none⟩=some (.pointer (some ⟨kb,0,none⟩)):=cell_of_row W cb 0 _ _ _ hs0.cx;have k5:W.cell? ⟨kb,5,none⟩=some (.slice C m c0):=hs0.k.cell 5;clear hs0;go_enter Tryz.func57,Tryz.ntmps57;go_wp2_with fail;clear p1 k5
 go_loopw [15] (fun i wr=>∃k:Nat,k≤m∧i=I (k:Nat)∧Below W.heap.size W wr) (fun i _=>m - (intOf i).toNat)
 case atStart=>exact ⟨0,Nat.zero_le _,rfl,Below.refl _ _⟩
 case round=>
  obtain ⟨k,hkm,rfl,hbw⟩:=hrel;have nR:=ae hbw;clear hbw;by_cases hk:k<m
  ·have i1:(k:Int)<(m:Int):=by omega
   have i0:(0:Int)≤(k:Int):=by omega
   have hs0:=Vy.out wr nR.out;have Ue:=HTR.out k hk;obtain ⟨b,off,rfl,hbB,hcl⟩:∃b off,C=some ⟨b,off,none⟩∧b<B∧∀k,k<m→wr.cell? ⟨b,off+k*2,none⟩=some (I (fU trs k))∧wr.cell? ⟨b,off+k*2+1,none⟩=some (I (kN trs k)):=by
    rcases hs0.tr with h1|h1
    ·omega
    ·exact h1
   obtain ⟨e0,e1⟩:=hcl k hk;have t0:wr.cell? ⟨tb,0,none⟩=some (I ho):=cell_of_row wr tb 0 _ _ _ hs0.tx;obtain ⟨xa,hxa⟩:∃x,fU trs k=x:=⟨_,rfl⟩;obtain ⟨xo,hxo⟩:∃x,kN trs k=x:=⟨_,rfl⟩;rw [hxa] at e0 Ue;rw [hxo] at e1;clear hs0 hcl hxa hxo t0;go_upto_region 3 with (first
    |((with_reducible refine bu 100 ?_);refine aN rfl 100 rfl #[I 0,I 0] (by kernel_rfl) ?_)
    |((with_reducible refine bV 100 ?_);go_must (refine wpList_store_row rfl _ _ _ rfl wr.heap.size #[I xa,I xo] rfl rfl 100 #[I 0,I 0] (heap_alloc_last wr _) (by kernel_rfl) rfl (by simp [Value.oneCell']) ?_)))
   have hb2:Below wr.heap.size wr ((wr.alloc (.cells #[I 0,I 0] 100)).setRow wr.heap.size #[I xa,I xo]):=aC (ag wr _) (Nat.le_refl _) _;have HX:=ae (AV.oH (AV.new wr #[I 0,I 0] 100) #[I xa,I xo]);have HB2:=ae (ah nR.out hb2);clear hb2 nR e0 e1;generalize (wr.alloc (.cells #[I 0,I 0] 100)).setRow wr.heap.size #[I xa,I xo]=W2 at HB2 HX ⊢;generalize wr.heap.size=xb at HX ⊢;have hs2:=Vy.out W2 HB2.out;have t0:W2.cell? ⟨tb,0,none⟩=some (I ho):=cell_of_row W2 tb 0 _ _ _ hs2.tx;have x0:W2.cell? ⟨xb,0,none⟩=some (I xa):=HX.out.cell 0;have hnl:¬ho≤xa:=by omega
   clear hs2;go_wp2_with fail;go_roundw
   case rel=>exact ⟨k+1,by omega,by go_num,HB2.out⟩
   case measure=>simp [intOf];omega
  ·have i1:¬(k:Int)<(m:Int):=by omega
   have hs0:=Vy.out wr nR.out;have p1:wr.cell? ⟨cb,0,none⟩=some (.pointer (some ⟨kb,0,none⟩)):=cell_of_row wr cb 0 _ _ _ hs0.cx;have k8:wr.cell? ⟨kb,8,none⟩=some (.slice A n c):=hs0.k.cell 8;by_cases hn0:n=0
   ·have HN:=ae hn0;have hnz:(n:Int)=0:=by omega
    clear hs0 hn0;go_wp2_with fail;refine bodyPost_ret (results_none rfl _ _ _) rfl ?_;exact ⟨⟨_,rfl⟩, .inl ⟨[],⟨rfl,HN.out⟩,HJ.out wr nR.out⟩⟩
   ·have hnn:¬(n:Int)=0:=by omega
    have hnp:0<n:=by omega
    obtain ⟨g,rfl,hgB,hcl⟩:∃g,A=some ⟨g,0,none⟩∧g<B∧∀k,k<n→wr.cell? ⟨g,k*2,none⟩=some (I (fU ts k))∧wr.cell? ⟨g,k*2+1,none⟩=some (I (kN ts k)):=by
     rcases hs0.ys with h1|h1
     ·omega
     ·exact h1
    have k6:wr.cell? ⟨kb,6,none⟩=some (I ho):=hs0.k.cell 6;have k9:wr.cell? ⟨kb,9,none⟩=some (I cy):=hs0.k.cell 9;have t0:wr.cell? ⟨tb,0,none⟩=some (I ho):=cell_of_row wr tb 0 _ _ _ hs0.tx;have f0:wr.frozen? ⟨tb,0,none⟩=false:=frozen_of_row wr tb 0 _ _ hs0.tx;clear hs0 hcl;go_wp2_with fail;go_still_tail 7,(by kernel_rfl);have hsc:wr.setCell ⟨tb,0,none⟩ (.int .i64 ho)=wr:=jl t0;change wpList _ _ _ _ _ wr.drew;have t0:wr.drew.cell? ⟨tb,0,none⟩=some (I ho):=t0;have f0:wr.drew.frozen? ⟨tb,0,none⟩=false:=f0;go_wp2_with fail;clear hsc;have VU:Hid (Below W.heap.size W wr.drew):=ae (ah nR.out ((Below.refl _ wr).drew));clear p1 k8 k6 k9 t0 f0 nR;generalize wr.drew=V at VU ⊢;have hs0:=Vy.out V VU.out;have HGC:Hid (∀W',Below W.heap.size W W'→∀k,k<n→W'.cell? ⟨g,k*2,none⟩=some (I (fU ts k))∧W'.cell? ⟨g,k*2+1,none⟩=some (I (kN ts k))):=ae (fun W' hb k hk=>by
     rcases (Vy.out W' hb).ys with h1|⟨g',e,_,hc⟩
     ·omega
     ·injection e with e;injection e with e;subst e;exact hc k hk)
    have KU:Hid (∀W',Below W.heap.size W W'→Calls Tryz.prog 59 #[.pointer (some ⟨kb,0,none⟩)] W' fun e w'=>e= .returned (I sz)∧w'=W'):=ae (fun W' hb=>by rw [←dR.out];exact FH kb cy W' ((Vy.out W' hb).k.cell 9) (by omega) (by omega));have p1:V.cell? ⟨cb,0,none⟩=some (.pointer (some ⟨kb,0,none⟩)):=cell_of_row V cb 0 _ _ _ hs0.cx;have t0:V.cell? ⟨tb,0,none⟩=some (I ho):=cell_of_row V tb 0 _ _ _ hs0.tx;have hrq:=fun k=>UK kb g n c cy ho z0 V (hs0.k.cell 8) (hs0.k.cell 9) (by have:=(HGC.out V VU.out 0 hnp).1;rw [HZ0.out] at this;simpa using this) hnp hc1 (by omega) (by omega) (by omega) k;have hmq:=fun k=>wH kb cy V (hs0.k.cell 9) (by omega) (by omega) k;rw [dR.out] at hmq;rw [dR.out,HMX.out] at hrq;have HRQ:=ae hrq;have HMQ:=ae hmq;clear hrq hmq hs0;have wq:IntKind.i64.wrap (q*sz)=b0:=by rw [HB0.out,IntKind.wrap_i64];omega
    go_quiet ((first|(go_at_call 58;exact HRQ.out _)|(go_at_call 59;exact HMQ.out _)));obtain ⟨V2,hV2⟩:∃W,V.drewN nq=W:=⟨_,rfl⟩;rw [hV2];have HB2:Hid (Below W.heap.size W V2):=ae (by rw [←hV2];exact ah VU.out (below_drewN' _ _));clear hV2 p1 t0 HRQ HMQ VU;go_wp2_with fail;clear wq
    go_loopw [6] (fun bv wr=>∃bs:Int,bv=I bs∧(bs=b0∨(bs=b0+sz∧∀j,j<n→fU ts j+b0<ho))∧Below W.heap.size W wr) (fun bv _=>(10000000000000000 - intOf bv).toNat)
    case atStart=>exact ⟨b0,rfl, .inl rfl,HB2.out⟩
    case round=>
     clear HB2;obtain ⟨bs,rfl,hbs,hbw⟩:=hrel;have nR:=ae hbw;have N7:=ae hbs;have hbb:0≤bs∧bs≤2260000000000000:=by rcases hbs with h|⟨h,_⟩<;>omega
     clear hbw hbs;have hs0:=Vy.out wr nR.out;have p1:wr.cell? ⟨cb,0,none⟩=some (.pointer (some ⟨kb,0,none⟩)):=cell_of_row wr cb 0 _ _ _ hs0.cx;have k8:wr.cell? ⟨kb,8,none⟩=some (.slice (some ⟨g,0,none⟩) n c):=hs0.k.cell 8;clear hs0;go_wp2_with fail;clear p1 k8
     go_loopw [58] (fun i wr=>∃k:Nat,k≤n∧i=I (k:Nat)∧(∀j,j<k→fU ts j+bs<ho)∧Below W.heap.size W wr) (fun i _=>n - (intOf i).toNat)
     case atStart=>exact ⟨0,Nat.zero_le _,rfl,fun j hj=>by omega,nR.out⟩
     case round=>
      clear nR;obtain ⟨k2,hkn,rfl,hjl,hbw⟩:=hrel;have nR:=ae hbw;have HJL:=ae hjl;clear hbw hjl;by_cases hk2:k2<n
      ·have j1:(k2:Int)<(n:Int):=by omega
       have j0:(0:Int)≤(k2:Int):=by omega
       obtain ⟨e0,e1⟩:=HGC.out wr nR.out k2 hk2;have hab:=xk k2 tK.out;obtain ⟨xa,hxa⟩:∃x,fU ts k2=x:=⟨_,rfl⟩;obtain ⟨xo,hxo⟩:∃x,kN ts k2=x:=⟨_,rfl⟩;have jf:=ae hxa;have Oc:=ae hxo;rw [hxa] at e0 hab;rw [hxo] at e1;clear hxa hxo;go_upto_region 12 with (first
        |((with_reducible refine bu 100 ?_);refine aN rfl 100 rfl #[I 0,I 0] (by kernel_rfl) ?_)
        |((with_reducible refine bV 100 ?_);go_must (refine wpList_store_row rfl _ _ _ rfl wr.heap.size #[I xa,I xo] rfl rfl 100 #[I 0,I 0] (heap_alloc_last wr _) (by kernel_rfl) rfl (by simp [Value.oneCell']) ?_)))
       have hb2:Below wr.heap.size wr ((wr.alloc (.cells #[I 0,I 0] 100)).setRow wr.heap.size #[I xa,I xo]):=aC (ag wr _) (Nat.le_refl _) _;have HX:=ae (AV.oH (AV.new wr #[I 0,I 0] 100) #[I xa,I xo]);have HB2:=ae (ah nR.out hb2);have hxb:=nR.out.size;clear hb2 nR e0 e1;generalize (wr.alloc (.cells #[I 0,I 0] 100)).setRow wr.heap.size #[I xa,I xo]=W2 at HB2 HX ⊢;generalize wr.heap.size=xb at HX hxb ⊢;have x0:W2.cell? ⟨xb,0,none⟩=some (I xa):=HX.out.cell 0;have fx:W2.frozen? ⟨xb,0,none⟩=false:=HX.out.gG 0;have wx:IntKind.i64.wrap (xa+bs)=xa+bs:=by rw [IntKind.wrap_i64];omega
       have Iw:Hid (AV xb 100 #[I (xa+bs),I xo] (W2.setCell ⟨xb,0,none⟩ (I (xa+bs)))):=ae (HX.out.put 0 _);have HB3:Hid (Below W.heap.size W (W2.setCell ⟨xb,0,none⟩ (I (xa+bs)))):=ae (HB2.out.setCell (p:=⟨xb,0,none⟩) hxb _);go_upto_region 13 with fail;clear x0 fx HX HB2;generalize W2.setCell ⟨xb,0,none⟩ (I (xa+bs))=W3 at Iw HB3 ⊢;have hs3:=Vy.out W3 HB3.out;have t0:W3.cell? ⟨tb,0,none⟩=some (I ho):=cell_of_row W3 tb 0 _ _ _ hs3.tx;have x0:W3.cell? ⟨xb,0,none⟩=some (I (xa+bs)):=Iw.out.cell 0;have x1:W3.cell? ⟨xb,1,none⟩=some (I xo):=Iw.out.cell 1;clear hs3;by_cases hit:ho≤xa+bs
       ·have jc:Hid ((dY ts sz ho).1=⟨xa+bs,xo⟩):=ae (by
         rcases N7.out with hb|⟨hb,Ue⟩
         ·rw [yP HQ.out HL.out hk2 (fun j hj=>by rw [HB0.out,←hb];exact HJL.out j hj) (by rw [HB0.out,jf.out,←hb];exact hit),HB0.out,jf.out,Oc.out,hb]
         ·have hk0:k2=0:=by
           rcases Nat.eq_zero_or_pos k2 with h|h
           ·exact h
           ·have:=HJL.out 0 h;rw [HZ0.out] at this;omega
          subst hk0;rw [BQ HQ.out HL.out hnp (fun j hj=>by rw [HB0.out];exact Ue j hj),HQ6.out,HB0.out,jf.out,Oc.out,hb])
        obtain ⟨fn,tmps,assign,body,hy,hR⟩:=HY.out [] ⟨⟨xa+bs,xo⟩,by show -4000000000000000≤xa+bs∧xa+bs≤4000000000000000;omega⟩ W3 (HJ.out W3 HB3.out);dsimp only at hy;refine (wpIn_wide (n:=N)).1 ?_
        gi_wp2
        first|refine hR.mono ?_ |refine ⟨trivial,hR.mono ?_⟩|refine ⟨trivial,fun _=>hN1,hR.mono ?_⟩
        rintro e W4 (⟨rfl,hJ4,_⟩|⟨rfl,hJx4⟩)
        ·exact absurd (HG.out _ _ hJ4) (by simp)
        ·gi_wp2
         go_wp2_with fail;refine bodyPost_ret (results_none rfl _ _ _) rfl ?_;exact ⟨⟨_,rfl⟩, .inr ⟨_,⟨hn0,by rw [jc.out];rfl⟩,hJx4⟩⟩
       ·go_wp2_with fail;go_roundw
        case rel=>exact ⟨k2+1,by omega,by go_num,fun j hj=>by
         rcases Nat.lt_or_ge j k2 with h|h
         ·exact HJL.out j h
         ·have:j=k2:=by omega
          subst this;rw [jf.out];omega,HB3.out⟩
        case measure=>simp [intOf];omega
      ·have j1:¬(k2:Int)<(n:Int):=by omega
       have hz:=HJL.out 0 (by omega);rw [HZ0.out] at hz;have hbs1:bs=b0:=by
        rcases N7.out with hb|⟨hb,_⟩
        ·exact hb
        ·omega
       have HLT:Hid (∀j,j<n→fU ts j+b0<ho):=ae (fun j hj=>by rw [←hbs1];exact HJL.out j (by omega));have ZM:=ae hbs1;clear hbs1 hz HJL;have hs0:=Vy.out wr nR.out;have p1:wr.cell? ⟨cb,0,none⟩=some (.pointer (some ⟨kb,0,none⟩)):=cell_of_row wr cb 0 _ _ _ hs0.cx;clear hs0;go_wp2_with fail;refine (KU.out wr nR.out).mono ?_;rintro e w9 ⟨rfl,rfl⟩;go_wp2_with fail;go_roundw
       case rel=>exact ⟨bs+sz,by go_num, .inr ⟨by rw [ZM.out],HLT.out⟩,nR.out⟩
       case measure=>simp [intOf];omega
theorem FV (c:Cal) (bg y:Int) (r r':Yr) (ts:List Tr):(pg c bg y r r' ts).length≤ts.length+1:=by
 unfold pg;split
 ·simp
 ·omega
theorem O3 {c:Cal} {r0 r1:Yr} {stop:Int} (hc:kZ c) (h0:En c.aj.length r0) (h1:En c.aj.length r1) (hs:stop≤4000000):∀(f:Nat) (bg y:Int) (ts:List Tr),0≤bg→vY ts→vY (ou c r0 r1 stop f bg y ts)∧(ou c r0 r1 stop f bg y ts).length≤ts.length+2*f
 |0,_,_,ts,_,h=>⟨h,by show ts.length≤_;omega⟩
 |f+1,bg,y,ts,hb,h=>by
  unfold ou;split
  ·have hy:=Ii c y hc;have h2:=O3 hc h0 h1 hs f (bg+Bh c y) (y+1) _ (by omega) (Dn c bg y r1 r0 _ hc h1 h0 hb (by omega) (Dn c bg y r0 r1 ts hc h0 h1 hb (by omega) h));have h3:=FV c bg y r1 r0 (pg c bg y r0 r1 ts);have h4:=FV c bg y r0 r1 ts;exact ⟨h2.1,by have:=h2.2;omega⟩
  ·exact ⟨h,by omega⟩
def Ae (z:Zn):Prop:=z.az= []∨∃r0 r1,z.az= [r0,r1]∧En z.cal.aj.length r0∧En z.cal.aj.length r1
theorem ysG_B (z:Zn) (hc:kZ z.cal) (hy:Ae z):vY (Bj z)∧(Bj z).length≤10000000:=by
 have h:vY (tu z)∧(tu z).length≤10000000:=by
  have hz:=Ij z hc;have he:=hc.ep;rcases hy with e|⟨r0,r1,e,h0,h1⟩
  ·rw [show tu z= [] by unfold tu;rw [e]];exact ⟨(fun _ h=>nomatch h),by decide⟩
  ·rw [show tu z=ou z.cal r0 r1 (z.cal.aI+lH z) (lH z).toNat z.cal.aI 1 [] by unfold tu;rw [e]];have h2:=O3 hc h0 h1 (stop:=z.cal.aI+lH z) (by omega) (lH z).toNat z.cal.aI 1 [] he.1 (fun _ h=>nomatch h);exact ⟨h2.1,by have h3:=h2.2;rw [List.length_nil] at h3;omega⟩
 exact ⟨h.1.perm (rf z),by rw [(rf z).length_eq];exact h.2⟩
theorem X9 (z:Zn) (s:Zs) (w:World) (hc:kZ z.cal) (h:jR w w.heap.size s z) (hy:Ae z):
  Calls Tryz.prog 54 #[.agg (ax z s)] w fun e w'=>(dZ (Bj z) (lH z*1440)=true∧e= .returned (.tuple #[.pointer (some ⟨w.heap.size+1,0,none⟩), .bool true])∧∃A n c,qI w (ax z s).toList (lH z) A n c (Bj z) w')∨(dZ (Bj z) (lH z*1440)=false∧e= .returned (.tuple #[.pointer none, .bool false])∧Below w.heap.size w w'):=by
 rcases hy with e|⟨r0,r1,e,h0,h1⟩
 ·have h1:kW z=lH z:=by unfold kW lH;rw [e]
  have h2:ry z= []:=by unfold ry;rw [e]
  have h3:Bj z= []:=by
   have h4:tu z= []:=by unfold tu;rw [e]
   have h5:=rf z;rw [h4] at h5;exact h5.eq_nil
  have h6:=UX z s w e;rw [h1,h2] at h6;rw [h3];refine h6.mono fun e w' h=> .inl ⟨rfl,h⟩
 ·exact tickG z s r0 r1 w hc h e h0 h1
def Rj (n l:Int):Bool:=decide (-l≤n)&&decide (n≤l)
theorem xZ {n l:Int} (h: -l≤n∧n≤l):Rj n l=true:=by
 unfold Rj;rw [decide_eq_true h.1,decide_eq_true h.2];rfl
theorem DN {n l:Int} (h:¬(-l≤n∧n≤l)):Rj n l=false:=by
 unfold Rj;by_cases h1: -l≤n
 ·rw [decide_eq_false (fun h2=>h ⟨h1,h2⟩),Bool.and_false]
 ·rw [decide_eq_false h1,Bool.false_and]
theorem sG (n l:Int) (w:World) (hl:0≤l∧l≤4503599627370496):Calls Tryz.prog 31 #[I n,I l] w fun e w'=>e= .returned (.bool (Rj n l))∧w'=w:=zZ n l w hl
theorem KH (n l:Int) (w:World) (hl:0≤l∧l≤4503599627370496) (k:Nat):Calls Tryz.prog 31 #[I n,I l] (w.drewN k) fun e w'=>e= .returned (.bool (Rj n l))∧∃m,w'=w.drewN m:=
 (sG n l (w.drewN k) hl).mono fun _ _ ⟨h3,h4⟩=>⟨h3,k,h4⟩
def sZ (z:Zn) (i:Nat):Prop:=(-1080≤kN z.trans i∧kN z.trans i≤1080)∧(-2251799813685248≤fU z.trans i∧fU z.trans i≤2251799813685248)∧fU z.trans i<z.hor∧(i=0∨2160≤fU z.trans i - fU z.trans (i - 1))
def qm (z:Zn) (i:Nat):Bool:=decide (-1080≤kN z.trans i∧kN z.trans i≤1080)&&(decide (-2251799813685248≤fU z.trans i∧fU z.trans i≤2251799813685248)&&(decide (fU z.trans i<z.hor)&&decide (i=0∨2160≤fU z.trans i - fU z.trans (i - 1))))
theorem gm (z:Zn) (i:Nat):qm z i=true↔sZ z i:=by
 unfold qm sZ;simp only [Bool.and_eq_true,decide_eq_true_eq]
def wU (n:Nat) (r:Yr):Bool:=decide (1≤r.month∧r.month≤(n:Int))&&(decide (1≤r.di∧r.di≤5)&&(decide (0≤r.dm∧r.dm≤6)&&(decide (0≤r.minute∧r.minute<1440)&&decide (-1080≤r.off∧r.off≤1080))))
theorem iH (n:Nat) (r:Yr):wU n r=true↔En n r:=by
 unfold wU;simp only [Bool.and_eq_true,decide_eq_true_eq];exact ⟨fun ⟨h1,h2,h3,h4,h5⟩=>⟨h1,h2,h3,h4,h5⟩,fun ⟨h1,h2,h3,h4,h5⟩=>⟨h1,h2,h3,h4,h5⟩⟩
def Vo (z:Zn):Bool:=match z.az with
 | []=>true
 | [r0,r1]=>wU z.cal.aj.length r0&&wU z.cal.aj.length r1
 |_=>false
theorem QQ (z:Zn):Vo z=true↔Ae z:=by
 unfold Vo Ae;split
 ·rename_i e;exact ⟨fun _=> .inl e,fun _=>rfl⟩
 ·rename_i r0 r1 e;rw [Bool.and_eq_true,iH,iH];refine ⟨fun ⟨h1,h2⟩=> .inr ⟨r0,r1,e,h1,h2⟩,fun h=>?_⟩;rcases h with h|⟨a,b,e2,h1,h2⟩
  ·rw [e] at h;cases h
  ·rw [e] at e2;injection e2 with e3 e4;injection e4 with e5 _;subst e3 e5;exact ⟨h1,h2⟩
 ·rename_i h1 h2;refine ⟨(fun h=>by cases h),fun h=>?_⟩;rcases h with h|⟨a,b,e2,_⟩
  ·exact absurd h h1
  ·exact absurd e2 (h2 a b)
def SA (z:Zn):Prop:=0<z.trans.length→(Bj z).length≠0→2160≤(dY (Bj z) (lH z*1440) z.hor).1.at_ - fU z.trans (z.trans.length - 1)
structure Ja (z:Zn):Prop where
 Nw:z.trans.length≤512
 cal:kZ z.cal
 st: -1080≤z.start∧z.start≤1080
 ho: -2251799813685248≤z.hor∧z.hor≤2251799813685248
 tr:∀i,i<z.trans.length→sZ z i
 yr:Ae z
 dW:dZ (Bj z) (lH z*1440)=true
 late:SA z
def Ea (z:Zn):Bool:=decide (z.trans.length≤512)&&(vC z.cal&&(decide (-1080≤z.start∧z.start≤1080)&&(decide (-2251799813685248≤z.hor∧z.hor≤2251799813685248)&&((List.range z.trans.length).all (qm z)&&(Vo z&&(dZ (Bj z) (lH z*1440)&&decide (0<z.trans.length→(Bj z).length≠0→2160≤(dY (Bj z) (lH z*1440) z.hor).1.at_ - fU z.trans (z.trans.length - 1))))))))
theorem G7 (z:Zn):Ea z=true↔Ja z:=by
 unfold Ea;simp only [Bool.and_eq_true,decide_eq_true_eq,List.all_eq_true,List.mem_range,Hy,gm,QQ];exact ⟨fun ⟨h1,h2,h3,h4,h5,h6,h7,h8⟩=>⟨h1,h2,h3,h4,h5,h6,h7,h8⟩,fun ⟨h1,h2,h3,h4,h5,h6,h7,h8⟩=>⟨h1,h2,h3,h4,h5,h6,h7,h8⟩⟩
theorem OQ {z:Zn} (h:Ja z):Ea z=true:=(G7 z).2 h
theorem qF {z:Zn} (h:¬Ja z):Ea z=false:=by
 cases e:Ea z with
 |false=>rfl
 |true=>exact absurd ((G7 z).1 e) h
end Go.Proofs.YtdibbemgpikgjaaGreat
