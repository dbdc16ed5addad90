/- The texts Rd, Rf, Rg, Rh, in this order. -/
import Derived.Test.YtdibbemgpikgjaaGreatZ00
import Derived.Test.YtdibbemgpikgjaaGreatZ30
set_option maxRecDepth 10000
set_option maxHeartbeats 8000000
namespace Go.Proofs.YtdibbemgpikgjaaGreat
open Go Go.RowKit
theorem Rw {z:Zn} (hv:vJ z=0):iE (dP z) (dL z*1440)=true∧oU z=false:=by
 unfold vJ at hv;split at hv
 ·omega
 ·rename_i h1;split at hv
  ·omega
  ·rename_i h2;exact ⟨by simpa using h1,by simpa using h2⟩
theorem lK.start {z:Zn} {kb:Nat} {W:World} (h:lK z kb W):W.cell? ⟨kb,4,none⟩=some (I z.start)∧W.cell? ⟨kb,6,none⟩=some (I z.hor)∧W.cell? ⟨kb,9,none⟩=some (I (dL z))∧kb<W.heap.size:=by
 obtain ⟨n0,n1,n3,a,r,c0,d0,c,lo,hi,A0,R0,A,C,D0,hk⟩:=h;exact ⟨hk.k.cell 4,hk.k.cell 6,hk.k.cell 9,hk.lt.1⟩
theorem uS (z:Zn) (kb:Nat) (t:Int) (w:World) (hm:nO z) (hg:iE (dP z) (dL z*1440)=true) (h:lK z kb w) (ht: -1000000000≤t∧t≤1000000000):
  Calls Tryz.prog 32 #[pt kb,I t] w (Gives (I (AZ z t)) w):=by
 have HL:=ae (last_any z kb t w hm hg h ht);have HC:=ae h;clear h hg ht hm;obtain ⟨o,ho⟩:∃o,mO z t=o:=⟨_,rfl⟩;have HO:Hid (AZ z t=offO z.start o):=ae (by unfold AZ;rw [ho]);unfold WB at HL;rw [ho] at HL;clear ho;go_enter Tryz.func32,Tryz.ntmps32;go_wp2_with fail;refine HL.out.mono ?_;rintro e w1 ⟨rfl,hb1⟩;have HB1:=ae hb1;have FW:=ae (heap_alloc_last w1 (.cells #[I 0,I 0] 100));obtain ⟨h4,_,_,hkb⟩:=(HC.out.keep hb1).start;clear hb1 HL;cases o with
 |some x=>
  obtain ⟨xa,xo⟩:=x;clear h4;go_upto_region 2 with (first
   |((with_reducible refine bn 100 ?_);refine aG rfl 100 rfl #[I 0,I 0] (by kernel_rfl) ?_)
   |((with_reducible refine dO 100 ?_);go_must (refine wpList_store_row rfl _ _ _ rfl w1.heap.size #[I xa,I xo] rfl rfl 100 #[I 0,I 0] FW.out (by kernel_rfl) rfl (by simp [Value.oneCell']) ?_)))
  have HX:=ae (AV.lq (AV.new w1 #[I 0,I 0] 100) #[I xa,I xo]);have HB2:=ae (ah HB1.out (aC (ag w1 (.cells #[I 0,I 0] 100)) (Nat.le_refl _) #[I xa,I xo]));clear FW HB1;generalize (w1.alloc (.cells #[I 0,I 0] 100)).setRow w1.heap.size #[I xa,I xo]=W5 at HX HB2 ⊢;generalize w1.heap.size=vb at HX ⊢;have x1:W5.cell? ⟨vb,1,none⟩=some (I xo):=HX.out.cell 1;go_wp2_with fail;go_ret;exact ⟨by rw [HO.out];rfl,HB2.out⟩
 |none=>
  obtain ⟨st,hst⟩:∃s,z.start=s:=⟨_,rfl⟩;rw [hst] at h4 HO;clear hst;go_upto_region 2 with (first
   |((with_reducible refine bn 100 ?_);refine aG rfl 100 rfl #[I 0,I 0] (by kernel_rfl) ?_)
   |((with_reducible refine dO 100 ?_);go_must (refine wpList_store_row rfl _ _ _ rfl w1.heap.size #[I 0,I 0] rfl rfl 100 #[I 0,I 0] FW.out (by kernel_rfl) rfl (by simp [Value.oneCell']) ?_)))
  have hb2:=aC (ag w1 (.cells #[I 0,I 0] 100)) (Nat.le_refl _) #[I 0,I 0];have h5:((w1.alloc (.cells #[I 0,I 0] 100)).setRow w1.heap.size #[I 0,I 0]).cell? ⟨kb,4,none⟩=some (I st):=(hb2.cell (p:=⟨kb,4,none⟩) hkb).trans h4;have HB2:=ae (ah HB1.out hb2);clear FW HB1 hb2 h4;generalize (w1.alloc (.cells #[I 0,I 0] 100)).setRow w1.heap.size #[I 0,I 0]=W5 at h5 HB2 ⊢;go_wp2_with fail;go_ret;exact ⟨by rw [HO.out];rfl,HB2.out⟩
theorem BP (z:Zn) (s:Zs) (t:Int) (w:World) (hm:nO z) (h:gW w w.heap.size s z) (hv:vJ z=0) (ht: -1000000000≤t∧t≤1000000000):
  Calls Tryz.prog 13 #[.agg (aj z s),I t] w (Gives (.tuple #[I (AZ z t),I 0]) w):=by
 have HO:=ae (fun (W:World) (hb:Below w.heap.size w W)=>tZ z s W hm (h.grow hb) hv);have HF:=ae (fun (kb:Nat) (W:World) (h:lK z kb W)=>uS z kb t W hm (Rw hv).1 h ht);have HW1:=ae (fun W=>jk t 2251799813685248 W (by omega) (by omega) (by omega));have HR0:=ae (Row.new w (aj z s) 51);have HB0:=ae (ag w (.cells (aj z s) 51));have I4:Hid ((Tryz.prog.info? 51).map (·.size)=some (aj z s).size):=ae (by kernel_rfl);generalize aj z s=zc at HO HR0 HB0 I4 ⊢;generalize AZ z t=o at HF ⊢;clear hm h hv ht;go_enter Tryz.func13,Tryz.ntmps13;go_wp2_with (with_reducible refine dI 51 ?_;refine aV rfl _ _ rfl w.heap.size rfl zc HR0.out _ Tryz.underlying51 rfl I4.out ?_);refine (HO.out _ HB0.out).mono ?_;rintro e w1 ⟨⟨kb,rfl,hk⟩,hb1⟩;have HK:=ae hk;have HB1:=ae (ah HB0.out hb1);clear hk hb1 HB0 HR0 HO;go_wp2_with fail;refine (HW1.out _).mono ?_;rintro e w1 ⟨rfl,rfl⟩;go_wp2_with fail;refine (HF.out kb w1 HK.out).mono ?_;rintro e w2 ⟨rfl,hb2⟩;have HB2:=ae (ah HB1.out hb2);clear hb2;go_wp2_with fail;go_ret2;exact ⟨rfl,HB2.out⟩
theorem ZE {ts:List Tr} {t:Int} {j:Nat} (h:j<Ve ts t):df ts j<t:=by
 unfold Ve at h;cases hf:(List.range ts.length).find? (fun j=>decide (t≤df ts j)) with
 |none=>
  rw [hf] at h;have h1:j<ts.length:=h;rw [List.find?_eq_none] at hf;have:=hf j (List.mem_range.2 h1);simp at this;exact this
 |some i=>
  rw [hf] at h;have h1:j<i:=h;rw [List.find?_range_eq_some] at hf;have:=hf.2.2 j h1;simp at this;exact this
theorem U1 {ts:List Tr} {t:Int} {k:Nat} (h:rY ts t=some k):df ts k≤t:=by
 unfold rY at h;split at h
 ·rename_i h1;injection h with h;rw [←h,h1.2];exact Int.le_refl _
 ·split at h
  ·cases h
  ·rename_i h2;injection h with h;exact Int.le_of_lt (ZE (by omega))
theorem DV {ts:List Tr} {n k:Nat} (hl:ts.length=n) (hk:k<n) (hs:∀i j,i<j→j<n→df ts i<df ts j):rY ts (df ts k)=some k:=by
 rw [EW hl (Nat.le_of_lt hk) (fun j hj=>hs j k hj hk) (fun j h1 h2=>by
  rcases Nat.lt_or_ge k j with h|h
  ·exact Int.le_of_lt (hs k j h h2)
  ·obtain rfl:j=k:=by omega
   exact Int.le_refl _),if_pos ⟨hk,rfl⟩]
theorem UY {z:Zn} (hm:nO z) {k:Nat} (hk:k<z.trans.length):mO z (df z.trans k)=some ⟨df z.trans k,fD z.trans k⟩:=by
 have hho:df z.trans k<z.hor:=by rw [qx hk];exact (hm.tr _ (List.getElem_mem _)).2.2
 have hy:TA z (df z.trans k)=none:=by
  unfold TA;split
  ·split
   ·rename_i k2 hl;have h2:=U1 hl;rw [if_neg (by omega)]
   ·rfl
  ·rfl
 rw [Hl hy];unfold RV;rw [DV rfl hk (MR hm)];rfl
theorem Vw {ts:List Tr} {sz u d:Int} (hs:1440≤sz) (hu:0≤u) (h0:0≤d) (h1:d<sz):kQ ts sz (df ts 0+d+u*sz)=u:=by
 rw [←wO];have h2:0≤u*sz:=Int.mul_nonneg hu (by omega);rw [Int.max_eq_left (by omega),show df ts 0+d+u*sz - df ts 0=d+u*sz by omega,Int.add_mul_ediv_right _ _ (by omega),Int.ediv_eq_zero_of_lt h0 h1,Int.zero_add]
theorem VD {z:Zn} (hg:iE (dP z) (dL z*1440)=true) {j:Nat} (hj:j<(dP z).length):0≤df (dP z) j - df (dP z) 0∧df (dP z) j - df (dP z) 0<dL z*1440:=by
 have h1:=vT hg ((dP z).length - 1) (by omega);unfold mJ at h1;rw [if_neg (by omega)] at h1;have hm:=FH hg;have h2:df (dP z) 0≤df (dP z) j:=by
  rcases Nat.eq_zero_or_pos j with h|h
  ·rw [h];exact Int.le_refl _
  ·exact Int.le_of_lt (hm 0 j h hj)
 have h3:df (dP z) j≤df (dP z) ((dP z).length - 1):=by
  rcases Nat.lt_or_ge j ((dP z).length - 1) with h|h
  ·exact Int.le_of_lt (hm j _ h (by omega))
  ·obtain rfl:j=(dP z).length - 1:=by omega
   exact Int.le_refl _
 omega
theorem UZ {z:Zn} (hm:nO z) (hg:iE (dP z) (dL z*1440)=true) {j:Nat} (hj:j<(dP z).length) {u:Int} (hu:0≤u) (hh:z.hor≤df (dP z) j+u*(dL z*1440)):
  mO z (df (dP z) j+u*(dL z*1440))=some ⟨df (dP z) j+u*(dL z*1440),fD (dP z) j⟩:=by
 have hsp:=VD hg hj;have hc1:=lD z hm.cal;have h2:0≤u*(dL z*1440):=Int.mul_nonneg hu (by omega);have ht:kQ (dP z) (dL z*1440) (df (dP z) j+u*(dL z*1440))=u:=by
  have:=Vw (ts:=dP z) (sz:=dL z*1440) (u:=u) (d:=df (dP z) j - df (dP z) 0) (by omega) hu hsp.1 hsp.2;rw [show df (dP z) 0+(df (dP z) j - df (dP z) 0)+u*(dL z*1440)=df (dP z) j+u*(dL z*1440) by omega] at this;exact this
 have hl:rY (dP z) (df (dP z) j+u*(dL z*1440) - u*(dL z*1440))=some j:=by
  rw [show df (dP z) j+u*(dL z*1440) - u*(dL z*1440)=df (dP z) j by omega];exact DV rfl hj (FH hg)
 refine Hm ?_;rw [SB rfl (by omega) (by omega) rfl ht rfl hl,if_pos hh]
abbrev TrP (z:Zn):= {x:Tr // mO z x.at_=some x∧ -1000000000≤x.at_∧x.at_≤1000000000}
structure Pj (lo hi B kb cb tb:Nat) (kc:List Value) (A:Option Addr) (n:Nat) (ts:List Tr) (C:Option Addr) (m:Nat) (trs:List Tr) (t:Int) (W:World):Prop where
 clk:zQ lo hi cb kb kc A n ts C m trs W
 cx:W.heap[cb]? =some (.cells #[.pointer (some ⟨kb,0,none⟩)] 85 (0,0))
 tx:W.heap[tb]? =some (.cells #[I t] 3 (0,0))
 lt:cb<tb∧tb<B
theorem Pj.keep {lo hi B kb cb tb n m:Nat} {kc:List Value} {A C:Option Addr} {ts trs:List Tr} {t:Int} {W W':World} (h:Pj lo hi B kb cb tb kc A n ts C m trs t W) (hb:Below B W W'):Pj lo hi B kb cb tb kc A n ts C m trs t W':=
 ⟨h.clk.far (fun k hk _=>hb.block k (by have:=h.lt;omega)) (Nat.le_refl _),(hb.block _ (by have:=h.lt;omega)).trans h.cx,(hb.block _ h.lt.2).trans h.tx,h.lt⟩
theorem Pj.set {lo hi B kb cb tb n m:Nat} {kc:List Value} {A C:Option Addr} {ts trs:List Tr} {t t':Int} {W:World} (h:Pj lo hi B kb cb tb kc A n ts C m trs t W):Pj lo hi B kb cb tb kc A n ts C m trs t' (W.setCell ⟨tb,0,none⟩ (I t')):=
 ⟨h.clk.far (fun k hk _=>heap_setCell_other W ⟨tb,0,none⟩ k _ (by show k≠tb;have:=h.lt;omega)) (Nat.le_refl _),(heap_setCell_other W ⟨tb,0,none⟩ cb _ (by show cb≠tb;have:=h.lt;omega)).trans h.cx,heap_setCell_same W tb 0 _ _ _ h.tx,h.lt⟩
theorem grown_setCell (W:World) (tb:Nat) (v:Value):W.grownBy (W.setCell ⟨tb,0,none⟩ v) (some tb):=by
 have b:=(Below.refl 0 W).setCell (p:=⟨tb,0,none⟩) (Nat.zero_le _) v;exact ⟨b.os,b.tape,b.output,b.size,fun k _ hn=>heap_setCell_other W ⟨tb,0,none⟩ k v (fun e=>hn (by rw [e]))⟩
theorem G5 (N lo hi B kb cb tb n m n0 n1 n3 a r c0 d0 c:Nat) (A0 R0 A C D0:Option Addr) (ep lp st ho cy t en:Int) (z:Zn) (w0:World) (hm:nO z) (hg:iE (dP z) (dL z*1440)=true)
  (h:Pj lo hi B kb cb tb [I ep, .slice A0 n0 a,I lp, .slice R0 n1 r,I st, .slice C m c0,I ho, .slice D0 n3 d0, .slice A n c,I cy] A n (dP z) C m z.trans t w0) (hB:B≤w0.heap.size) (hl:(dP z).length=n) (hlt:z.trans.length=m) (hho:z.hor=ho) (hcy:dL z=cy)
  (ht:t≤0) (hen:en≤700000000) (hN1:1≤N):
  pU Fence.wide N Tryz.prog 57 #[.pointer (some ⟨cb,0,none⟩), .pointer (some ⟨tb,0,none⟩)] (fun x:TrP z=> #[.agg #[I x.1.at_,I x.1.off]]) (fun _=>True) (fun _=>True) (fun pre=>∀x∈pre,x.1.at_≤en) B tb w0:=by
 intro l J Jx W hW hJ _ hG hY h0;have hfr:=h.keep (hW.mono hB);have hsz:B≤W.heap.size:=Nat.le_trans hB hW.size;have HJ:Hid (∀pre W1 W',J pre W1→W.heap.size≤W1.heap.size→Below W1.heap.size W1 W'→J pre W'):=ae (fun pre W1 W' hj _ hb=>hJ pre W1 W' none hj (jm hb) (fun r e=>nomatch e));have HJT:Hid (∀pre W1 v,J pre W1→J pre (W1.setCell ⟨tb,0,none⟩ v)):=ae (fun pre W1 v hj=>hJ pre W1 _ (some tb) hj (grown_setCell W1 tb v) (fun r e=>by injection e with e;exact .inr e.symm));have HG:=ae hG;have HY:=ae hY;have V7:=ae hfr;have H00:=ae h0;have XU:=ae hsz;have HTRP:Hid (∀k,k<m→0≤df z.trans k∧df z.trans k<ho∧mO z (df z.trans k)=some ⟨df z.trans k,fD z.trans k⟩):=ae fun k hk=>by
  have h1:=hm.tr _ (List.getElem_mem (show k<z.trans.length by omega));exact ⟨by rw [qx (by omega)];exact h1.2.1,by rw [qx (by omega),←hho];exact h1.2.2,UY hm (by omega)⟩
 have Yb:Hid (∀(j:Nat) (u:Int),j<n→0≤u→ho≤df (dP z) j+u*(cy*1440)→mO z (df (dP z) j+u*(cy*1440))=some ⟨df (dP z) j+u*(cy*1440),fD (dP z) j⟩):=ae fun j u hj hu hh=>by
  have:=UZ hm hg (j:=j) (by omega) hu (by rw [hcy,hho];exact hh);rw [hcy] at this;exact this
 have WA:=ae (fun k=>lQ k (sU z hm).1);have hnb:n≤1000:=by rw [←hl];exact (sU z hm).2
 have hmb:m≤3:=by rw [←hlt];exact hm.MV
 have hc1:1≤cy:=by rw [←hcy];exact lD z hm.cal
 have hc2:cy≤1400:=by rw [←hcy];exact (jP z hm.cal).2
 have hh:0≤ho∧ho≤1000000:=by rw [←hho];exact hm.hor
 clear h hJ h0 hfr hG hY hW hl hlt hm hg hcy hho hB hsz;generalize dP z=ts at V7 Yb WA;generalize z.trans=trs at V7 HTRP;refine callsIn_wide.2 ?_;show Calls Tryz.prog _ #[.func (.yield l) #[] #[], .pointer (some ⟨cb,0,none⟩), .pointer (some ⟨tb,0,none⟩)] W _;have p1:W.cell? ⟨cb,0,none⟩=some (.pointer (some ⟨kb,0,none⟩)):=cell_of_row W cb 0 _ _ _ V7.out.cx;have k5:W.cell? ⟨kb,5,none⟩=some (.slice C m c0):=V7.out.clk.k.cell 5;go_enter Tryz.func57,Tryz.ntmps57;go_wp2_with fail;clear p1 k5
 go_loopw [15] (fun i wr=>∃k:Nat,k≤m∧i=I (k:Nat)∧W.heap.size≤wr.heap.size∧Pj lo hi B kb cb tb [I ep, .slice A0 n0 a,I lp, .slice R0 n1 r,I st, .slice C m c0,I ho, .slice D0 n3 d0, .slice A n c,I cy] A n ts C m trs t wr∧∃pre,J pre wr) (fun i _=>m - (intOf i).toNat)
 case atStart=>exact ⟨0,Nat.zero_le _,rfl,Nat.le_refl _,V7.out,[],H00.out⟩
 case round=>
  clear V7 H00;obtain ⟨k,WY,rfl,hsw,hfr,pre,hj⟩:=hrel;have tq:=ae hfr;have Nq:=ae hj;clear hfr hj;by_cases hk:k<m
  ·have i1:(k:Int)<(m:Int):=by omega
   have i0:(0:Int)≤(k:Int):=by omega
   obtain ⟨b,off,rfl,hbB,hcl⟩:∃b off,C=some ⟨b,off,none⟩∧b<cb∧∀k,k<m→wr.cell? ⟨b,off+k*2,none⟩=some (I (df trs k))∧wr.cell? ⟨b,off+k*2+1,none⟩=some (I (fD trs k)):=by
    rcases tq.out.clk.tr with h1|⟨b,off,h1,h2,h3⟩
    ·omega
    ·exact ⟨b,off,h1,h2.1,h3⟩
   obtain ⟨e0,e1⟩:=hcl k hk;obtain ⟨hx1,hx2,hx3⟩:=HTRP.out k hk;obtain ⟨xa,hxa⟩:∃x,df trs k=x:=⟨_,rfl⟩;obtain ⟨xo,hxo⟩:∃x,fD trs k=x:=⟨_,rfl⟩;rw [hxa] at e0 hx1 hx2 hx3;rw [hxo] at e1 hx3;have BR:=ae hx3;clear hcl hxa hxo hx3;go_upto_region 3 with (first
    |((with_reducible refine bn 100 ?_);refine aG rfl 100 rfl #[I 0,I 0] (by kernel_rfl) ?_)
    |((with_reducible refine bT 100 ?_);go_must (refine wpList_store_row rfl _ _ _ rfl wr.heap.size #[I xa,I xo] rfl rfl 100 #[I 0,I 0] (heap_alloc_last wr _) (by kernel_rfl) rfl (by simp [Value.oneCell']) ?_)))
   have hb2:Below wr.heap.size wr ((wr.alloc (.cells #[I 0,I 0] 100)).setRow wr.heap.size #[I xa,I xo]):=aC (ag wr _) (Nat.le_refl _) _;have HX:=ae (AV.lq (AV.new wr #[I 0,I 0] 100) #[I xa,I xo]);have XC:=ae (tq.out.keep (hb2.mono (by have:=XU.out;omega)));have HJ2:=ae (HJ.out pre wr _ Nq.out hsw hb2);have hsw2:=Nat.le_trans hsw hb2.size;clear hb2 tq Nq e0 e1;generalize (wr.alloc (.cells #[I 0,I 0] 100)).setRow wr.heap.size #[I xa,I xo]=W2 at XC HJ2 hsw2 HX ⊢;generalize wr.heap.size=xb at HX hsw ⊢;have t0:W2.cell? ⟨tb,0,none⟩=some (I t):=cell_of_row W2 tb 0 _ _ _ XC.out.tx;have x0:W2.cell? ⟨xb,0,none⟩=some (I xa):=HX.out.cell 0;have x1:W2.cell? ⟨xb,1,none⟩=some (I xo):=HX.out.cell 1;have hnl:t≤xa:=by omega
   obtain ⟨fn,tmps,assign,body,hy,hR⟩:=HY.out pre ⟨⟨xa,xo⟩,BR.out,by show -1000000000≤xa;omega,by show xa≤1000000000;omega⟩ W2 HJ2.out;dsimp only at hy;refine (wpIn_wide (n:=N)).1 ?_
   gi_wp2
   first|refine hR.mono ?_ |refine ⟨trivial,hR.mono ?_⟩|refine ⟨trivial,fun _=>hN1,hR.mono ?_⟩
   rintro e W4 (⟨rfl,WV,hb4⟩|⟨rfl,N8⟩)
   ·have HJ4:=ae WV;have HF4:=ae (XC.out.keep hb4);have hs4:=Nat.le_trans hsw2 hb4.size;clear WV hb4
    gi_wp2
    go_wp2_with fail;go_roundw
    case rel=>exact ⟨k+1,by omega,by go_num,hs4,HF4.out,_,HJ4.out⟩
    case measure=>simp [intOf];omega
   ·gi_wp2
    go_wp2_with fail;refine bodyPost_ret (results_none rfl _ _ _) rfl ?_;exact ⟨⟨_,rfl⟩, .inr ⟨_,trivial,N8⟩⟩
  ·have i1:¬(k:Int)<(m:Int):=by omega
   have p1:wr.cell? ⟨cb,0,none⟩=some (.pointer (some ⟨kb,0,none⟩)):=cell_of_row wr cb 0 _ _ _ tq.out.cx;have k8:wr.cell? ⟨kb,8,none⟩=some (.slice A n c):=tq.out.clk.k.cell 8;by_cases hn0:n=0
   ·have hnz:(n:Int)=0:=by omega
    clear hn0;go_wp2_with fail;refine bodyPost_ret (results_none rfl _ _ _) rfl ?_
    first|exact ⟨⟨_,rfl⟩, .inl ⟨pre,trivial,Nq.out⟩⟩|exact ⟨⟨_,rfl⟩, .inl ⟨pre,Nq.out⟩⟩
   ·have hnn:¬(n:Int)=0:=by omega
    have hnp:0<n:=by omega
    have k6:wr.cell? ⟨kb,6,none⟩=some (I ho):=tq.out.clk.k.cell 6;have t0:wr.cell? ⟨tb,0,none⟩=some (I t):=cell_of_row wr tb 0 _ _ _ tq.out.tx;have f0:wr.frozen? ⟨tb,0,none⟩=false:=frozen_of_row wr tb 0 _ _ tq.out.tx;have hmx:max t ho=ho:=by omega
    clear hn0;go_wp2_with fail;go_still_tail 7,(by kernel_rfl);obtain ⟨g,hAg⟩:∃g,A=some ⟨g,0,none⟩:=by
     rcases tq.out.clk.ys with h1|⟨g,h1,_⟩
     ·omega
     ·exact ⟨g,h1⟩
    subst hAg;change wpList _ _ _ _ _ wr.drew;have t0:wr.drew.cell? ⟨tb,0,none⟩=some (I t):=t0;have f0:wr.drew.frozen? ⟨tb,0,none⟩=false:=f0;go_wp2_with fail;have hdr:Below B (wr.setCell ⟨tb,0,none⟩ (I ho)) (wr.setCell ⟨tb,0,none⟩ (I ho)).drew:=(Below.refl B _).drew;have TM:=ae ((tq.out.set (t':=ho)).keep hdr);have hsv:W.heap.size≤(wr.setCell ⟨tb,0,none⟩ (I ho)).heap.size:=Nat.le_trans hsw ((Below.refl 0 wr).setCell (p:=⟨tb,0,none⟩) (Nat.zero_le _) (I ho)).size;have HJV:=ae (HJ.out pre (wr.setCell ⟨tb,0,none⟩ (I ho)) (wr.setCell ⟨tb,0,none⟩ (I ho)).drew (HJT.out pre wr (I ho) Nq.out) hsv ((Below.refl _ _).drew));have hsv:W.heap.size≤(wr.setCell ⟨tb,0,none⟩ (I ho)).drew.heap.size:=hsv;clear tq Nq p1 k8 k6 t0 f0 hsw hmx hdr;generalize (wr.setCell ⟨tb,0,none⟩ (I ho)).drew=V at TM HJV hsv ⊢;have HGC:Hid (∀(T:Int) (W':World),Pj lo hi B kb cb tb [I ep, .slice A0 n0 a,I lp, .slice R0 n1 r,I st, .slice C m c0,I ho, .slice D0 n3 d0, .slice (some ⟨g,0,none⟩) n c,I cy] (some ⟨g,0,none⟩) n ts C m trs T W'→∀k,k<n→W'.cell? ⟨g,k*2,none⟩=some (I (df ts k))∧W'.cell? ⟨g,k*2+1,none⟩=some (I (fD ts k))):=ae (fun T W' h k hk=>by
     rcases h.clk.ys with h1|⟨g',e,_,hc⟩
     ·omega
     ·injection e with e;injection e with e;subst e;exact hc k hk)
    obtain ⟨sz,JJ⟩:∃s,cy*1440=s:=⟨_,rfl⟩;have hs1:1440≤sz∧sz≤2016000:=by omega
    have dM:=ae JJ;rw [JJ] at Yb;clear JJ;have ha0:=WA.out 0;obtain ⟨q,hq⟩:∃q,kQ ts sz ho=q:=⟨_,rfl⟩;have htd:=wM hq hs1.1 ha0.1 hh.1 hh.2;obtain ⟨b0,hb0⟩:∃b,q*sz=b:=⟨_,rfl⟩;obtain ⟨z0,hz0⟩:∃z,df ts 0=z:=⟨_,rfl⟩;have HZ0:=ae hz0;have HB0:=ae hb0;obtain ⟨hq1,_,hq3,hq4,hq5,hq6⟩:=htd;rw [hq6] at hq5;rw [hb0] at hq3 hq4 hq5;rw [hz0] at hq5 ha0;have HMX:Hid (max (ho - z0) 0 / sz=q):=ae (by rw [←HZ0.out,wO];exact hq);clear hq hb0 hz0 hq6;have p1:V.cell? ⟨cb,0,none⟩=some (.pointer (some ⟨kb,0,none⟩)):=cell_of_row V cb 0 _ _ _ TM.out.cx;have t0:V.cell? ⟨tb,0,none⟩=some (I ho):=cell_of_row V tb 0 _ _ _ TM.out.tx;have hrq:=fun k=>yB kb g n c cy ho z0 V (TM.out.clk.k.cell 8) (TM.out.clk.k.cell 9) (by have:=(HGC.out ho V TM.out 0 hnp).1;rw [HZ0.out] at this;simpa using this) hnp hc1 (by omega) (by omega) (by omega) k;have Za:=fun k=>mg kb cy V (TM.out.clk.k.cell 9) (by omega) (by omega) k;rw [dM.out] at Za;rw [dM.out,HMX.out] at hrq;have HRQ:=ae hrq;have HMQ:=ae Za;clear hrq Za;have wq:IntKind.i64.wrap (q*sz)=b0:=by rw [HB0.out,IntKind.wrap_i64];omega
    go_quiet ((first|(go_at_call 58;exact HRQ.out _)|(go_at_call 59;exact HMQ.out _)));obtain ⟨V2,hV2⟩:∃W,V.drewN nq=W:=⟨_,rfl⟩;rw [hV2];have hbv:Below V.heap.size V V2:=by rw [←hV2];exact below_drewN' _ _
    have HF2:=ae (TM.out.keep (hbv.mono (by have:=XU.out;omega)));have HJ2:=ae (HJ.out pre V V2 HJV.out hsv hbv);have hs2:=Nat.le_trans hsv hbv.size;clear hV2 p1 t0 HRQ HMQ TM HJV hsv hbv;go_wp2_with fail;clear wq
    go_loopw [6] (fun bv wr=>∃u bs:Int,q≤u∧u*sz=bs∧bv=I bs∧bs≤750000000∧W.heap.size≤wr.heap.size∧Pj lo hi B kb cb tb [I ep, .slice A0 n0 a,I lp, .slice R0 n1 r,I st, .slice C m c0,I ho, .slice D0 n3 d0, .slice (some ⟨g,0,none⟩) n c,I cy] (some ⟨g,0,none⟩) n ts C m trs ho wr∧∃pre,J pre wr) (fun bv _=>(1000000000 - intOf bv).toNat)
    case atStart=>exact ⟨q,b0,Int.le_refl _,HB0.out,rfl,by omega,hs2,HF2.out,pre,HJ2.out⟩
    case round=>
     clear HF2 HJ2 hs2 pre;obtain ⟨u,bs,hqu,hub,rfl,hbb,hsw,hfr,pre,hj⟩:=hrel;have tq:=ae hfr;have Nq:=ae hj;have Wp:=ae hub;have hb00:b0≤bs:=by rw [←hub,←HB0.out];exact Int.mul_le_mul_of_nonneg_right hqu (by omega)
     have Ll:Hid (q<u→ho≤z0+bs):=ae (fun h=>by
      have h1:(q+1)*sz≤u*sz:=Int.mul_le_mul_of_nonneg_right (by omega) (by omega);rw [Int.add_mul,Int.one_mul,HB0.out,Wp.out] at h1;omega)
     have HUQ:Hid (u=q→bs=b0):=ae (fun h=>by rw [←Wp.out,h,HB0.out]);clear hfr hj hub;have p1:wr.cell? ⟨cb,0,none⟩=some (.pointer (some ⟨kb,0,none⟩)):=cell_of_row wr cb 0 _ _ _ tq.out.cx;have k8:wr.cell? ⟨kb,8,none⟩=some (.slice (some ⟨g,0,none⟩) n c):=tq.out.clk.k.cell 8;go_wp2_with fail;clear p1 k8
     go_loopw [58] (fun i wr=>∃k:Nat,k≤n∧i=I (k:Nat)∧W.heap.size≤wr.heap.size∧Pj lo hi B kb cb tb [I ep, .slice A0 n0 a,I lp, .slice R0 n1 r,I st, .slice C m c0,I ho, .slice D0 n3 d0, .slice (some ⟨g,0,none⟩) n c,I cy] (some ⟨g,0,none⟩) n ts C m trs ho wr∧(0<k→ho≤z0+bs→z0+bs≤en)∧∃pre,J pre wr) (fun i _=>n - (intOf i).toNat)
     case atStart=>exact ⟨0,Nat.zero_le _,rfl,hsw,tq.out,fun h=>absurd h (Nat.lt_irrefl _),pre,Nq.out⟩
     case round=>
      clear tq Nq hsw pre;obtain ⟨k2,hkn,rfl,hsw,hfr,hz,pre,hj⟩:=hrel;have tq:=ae hfr;have Nq:=ae hj;have Uf:=ae hz;clear hfr hj hz;by_cases hk2:k2<n
      ·have j1:(k2:Int)<(n:Int):=by omega
       have j0:(0:Int)≤(k2:Int):=by omega
       obtain ⟨e0,e1⟩:=HGC.out ho wr tq.out k2 hk2;have hab:=WA.out k2;have hlx:=Yb.out k2 u hk2 (by omega);rw [Wp.out] at hlx;obtain ⟨xa,hxa⟩:∃x,df ts k2=x:=⟨_,rfl⟩;obtain ⟨xo,hxo⟩:∃x,fD ts k2=x:=⟨_,rfl⟩;have jg:=ae hxa;rw [hxa] at e0 hab hlx;rw [hxo] at e1 hlx;have OZ:=ae hlx;clear hxa hxo hlx;go_upto_region 12 with (first
        |((with_reducible refine bn 100 ?_);refine aG rfl 100 rfl #[I 0,I 0] (by kernel_rfl) ?_)
        |((with_reducible refine bT 100 ?_);go_must (refine wpList_store_row rfl _ _ _ rfl wr.heap.size #[I xa,I xo] rfl rfl 100 #[I 0,I 0] (heap_alloc_last wr _) (by kernel_rfl) rfl (by simp [Value.oneCell']) ?_)))
       have hb2:Below wr.heap.size wr ((wr.alloc (.cells #[I 0,I 0] 100)).setRow wr.heap.size #[I xa,I xo]):=aC (ag wr _) (Nat.le_refl _) _;have HX:=ae (AV.lq (AV.new wr #[I 0,I 0] 100) #[I xa,I xo]);have HB2:=ae hb2;clear hb2 e0 e1;obtain ⟨xb,hxb⟩:∃x,wr.heap.size=x:=⟨_,rfl⟩;rw [hxb] at HX HB2 hsw ⊢;have HXB:=ae hxb;clear hxb;generalize (wr.alloc (.cells #[I 0,I 0] 100)).setRow xb #[I xa,I xo]=W2 at HB2 HX ⊢;have x0:W2.cell? ⟨xb,0,none⟩=some (I xa):=HX.out.cell 0;have fx:W2.frozen? ⟨xb,0,none⟩=false:=HX.out.gm 0;have wx:IntKind.i64.wrap (xa+bs)=xa+bs:=by rw [IntKind.wrap_i64];omega
       have BR:Hid (AV xb 100 #[I (xa+bs),I xo] (W2.setCell ⟨xb,0,none⟩ (I (xa+bs)))):=ae (HX.out.put 0 _);have hb3:Below wr.heap.size wr (W2.setCell ⟨xb,0,none⟩ (I (xa+bs))):=by
        have h:=HB2.out.setCell (p:=⟨xb,0,none⟩) (Nat.le_refl _) (I (xa+bs));rw [←HXB.out] at h ⊢;exact h
       have HF3:=ae (tq.out.keep (hb3.mono (by have:=XU.out;have:=HXB.out;omega)));have HJ3:=ae (HJ.out pre wr _ Nq.out (by have:=HXB.out;omega) hb3);have hs3:W.heap.size≤(W2.setCell ⟨xb,0,none⟩ (I (xa+bs))).heap.size:=Nat.le_trans (by have:=HXB.out;omega) hb3.size;clear hb3 tq Nq;go_upto_region 13 with fail;clear x0 fx HX HB2;generalize W2.setCell ⟨xb,0,none⟩ (I (xa+bs))=W3 at BR HF3 HJ3 hs3 ⊢;have t0:W3.cell? ⟨tb,0,none⟩=some (I ho):=cell_of_row W3 tb 0 _ _ _ HF3.out.tx;have x0:W3.cell? ⟨xb,0,none⟩=some (I (xa+bs)):=BR.out.cell 0;have x1:W3.cell? ⟨xb,1,none⟩=some (I xo):=BR.out.cell 1;by_cases hit:ho≤xa+bs
       ·obtain ⟨fn,tmps,assign,body,hy,hR⟩:=HY.out pre ⟨⟨xa+bs,xo⟩,OZ.out hit,by show -1000000000≤xa+bs;omega,by show xa+bs≤1000000000;omega⟩ W3 HJ3.out;dsimp only at hy;refine (wpIn_wide (n:=N)).1 ?_
        gi_wp2
        first|refine hR.mono ?_ |refine ⟨trivial,hR.mono ?_⟩|refine ⟨trivial,fun _=>hN1,hR.mono ?_⟩
        rintro e W4 (⟨rfl,WV,hb4⟩|⟨rfl,N8⟩)
        ·have hle:xa+bs≤en:=HG.out _ _ WV ⟨⟨xa+bs,xo⟩,OZ.out hit,by show -1000000000≤xa+bs;omega,by show xa+bs≤1000000000;omega⟩ (List.mem_append_right _ (List.mem_singleton.2 rfl));have HJ4:=ae WV;have HF4:=ae (HF3.out.keep hb4);have hs4:=Nat.le_trans hs3 hb4.size;clear WV hb4
         gi_wp2
         go_wp2_with fail;go_roundw
         case rel=>exact ⟨k2+1,by omega,by go_num,hs4,HF4.out,fun _ h=>by
          rcases Nat.eq_zero_or_pos k2 with h1|h1
          ·have:=jg.out;have:=HZ0.out;rw [h1] at*;omega
          ·exact Uf.out h1 h,_,HJ4.out⟩
         case measure=>simp [intOf];omega
        ·gi_wp2
         go_wp2_with fail;refine bodyPost_ret (results_none rfl _ _ _) rfl ?_
         first|exact ⟨⟨_,rfl⟩, .inr ⟨_,trivial,N8⟩⟩|exact ⟨⟨_,rfl⟩, .inr ⟨_,N8⟩⟩
       ·go_wp2_with fail;go_roundw
        case rel=>exact ⟨k2+1,by omega,by go_num,hs3,HF3.out,fun _ h=>by
          rcases Nat.eq_zero_or_pos k2 with h1|h1
          ·have:=jg.out;have:=HZ0.out;rw [h1] at*;omega
          ·exact Uf.out h1 h,pre,HJ3.out⟩
        case measure=>simp [intOf];omega
      ·have j1:¬(k2:Int)<(n:Int):=by omega
       have hbn:bs+sz≤750000000:=by
        by_cases huq:u=q
        ·have:=HUQ.out huq;omega
        ·have h1:=Ll.out (by omega);have h2:=Uf.out (by omega) h1;omega
       have p1:wr.cell? ⟨cb,0,none⟩=some (.pointer (some ⟨kb,0,none⟩)):=cell_of_row wr cb 0 _ _ _ tq.out.cx;have O0:=ae (oW kb cy wr (tq.out.clk.k.cell 9) (by omega) (by omega));rw [dM.out] at O0;go_wp2_with fail;refine O0.out.mono ?_;rintro e w9 ⟨rfl,rfl⟩;go_wp2_with fail;go_roundw
       case rel=>exact ⟨u+1,bs+sz,by omega,by rw [Int.add_mul,Int.one_mul,Wp.out],by go_num,hbn,hsw,tq.out,pre,Nq.out⟩
       case measure=>simp [intOf];omega
def FinS (w:World) (c:Code) (pre:List Yt) (X:World):Prop:=
 ∃x:Yt,pre= [x]∧c= .ret∧X.heap[w.heap.size]? =some (.cells #[I x.1.at_] 3 (0,0))∧Below w.heap.size w X
theorem Qv {w:World} {B tb:Nat} (hB:w.heap.size<B) (htb:w.heap.size<tb) (c:Code):ig B tb (FinS w c):=by
 rintro s X Y row ⟨x,h1,h2,h3,h4⟩ hg hr;exact ⟨x,h1,h2,(hg.block _ (aZ.1 h3).1 (fun e=>by rcases hr _ e.symm with h|h<;>omega)).trans h3,h4.grown hg h4.size (fun k e=>by rcases hr k e with h|h<;>omega)⟩
theorem zQ.fr {lo hi B kb cb tb n m:Nat} {kc:List Value} {A C:Option Addr} {ts trs:List Tr} {t:Int} {W:World} (h:zQ lo hi B kb kc A n ts C m trs W) (hc:W.heap[cb]? =some (.cells #[.pointer (some ⟨kb,0,none⟩)] 85 (0,0))) (ht:W.heap[tb]? =some (.cells #[I t] 3 (0,0))) (hcb:cb<W.heap.size) (htb:tb<W.heap.size) (hB:B≤W.heap.size):Xt W.heap.size kb cb tb kc A n ts C m trs t W:=by
 refine ⟨h.k,?_,?_,hc,ht,dR h.lt.1 hB,hcb,htb⟩
 ·rcases h.ys with h0|⟨g,e,hg,hh⟩
  ·exact .inl h0
  ·exact .inr ⟨g,e,dR hg.1 hB,hh⟩
 ·rcases h.tr with h0|⟨b,off,e,hg,hh⟩
  ·exact .inl h0
  ·exact .inr ⟨b,off,e,dR hg.1 hB,hh⟩
theorem AX (w:World) (g:Nat) (v:Value) (h:w.cell? ⟨g,0,none⟩=some v):(loadVar 3 ⟨g,0,none⟩).run Tryz.prog w= .ok v w:=by
 unfold loadVar;simp [h,go_sem]
theorem sF {P:Program} {fn:Func} {p:Tmp} {t1:TypeId} (h:fn.results= #[.cell p t1]) (tmps:Array Value) (w:World) (a:Addr) (u:Value) (hp:tmps.getD p undef= .pointer (some a)) (hu:(loadVar t1 a).run P w= .ok u w):(results fn tmps).run P w= .ok u w:=by
 have hp':tmps[p]?.getD undef= .pointer (some a):=by simpa using hp
 simp [results,h,hp',asAddr,hu]
theorem NK {ts:List Tr} {sz t:Int} (h:Gt ts) (hs:1440≤sz) (hs2:sz≤2016000) (ht0:0≤t) (ht:t≤1000000): -200000000≤(dU ts sz t).1.at_∧(dU ts sz t).1.at_≤200000000:=by
 have ha:=fun k=>lQ k h;have hq:=wM (ts:=ts) rfl hs (ha 0).1 ht0 ht;obtain ⟨_,_,h3,h4,_,h6⟩:=hq;unfold dU;split
 ·simp
 ·split
  ·rename_i j _;have:=ha j;simp only;omega
  ·have:=ha 0;simp only;omega
attribute [local go_sem] Oper.semAt_some
def SetP (w:World) (e:Ending) (w':World):Prop:=∃x:Int,e= .returned (I x)∧(-200000000≤x∧x≤200000000)∧Below w.heap.size w w'
theorem yG (z:Zn) (kb:Nat) (w:World) (hm:nO z) (h:lK z kb w):Calls Tryz.prog 34 #[pt kb] w (SetP w):=by
 obtain ⟨n0,n1,n3,a,r,c0,d0,c,lo,hi,A0,R0,A,C,D0,hk⟩:=h;have HM:=ae hm;have hho:=hm.hor;have JH:=hm.MV;obtain ⟨n,hn⟩:∃n,(dP z).length=n:=⟨_,rfl⟩;obtain ⟨m,hmm⟩:∃n,z.trans.length=n:=⟨_,rfl⟩;obtain ⟨cy,hcy⟩:∃cy,dL z=cy:=⟨_,rfl⟩;obtain ⟨ho,EP⟩:∃cy,z.hor=cy:=⟨_,rfl⟩;obtain ⟨ep,QK⟩:∃cy,z.cal.aN=cy:=⟨_,rfl⟩;obtain ⟨lp,hlp⟩:∃cy,z.cal.bu=cy:=⟨_,rfl⟩;obtain ⟨st,hst⟩:∃cy,z.start=cy:=⟨_,rfl⟩;rw [hn,hmm,hcy,EP,QK,hlp,hst] at hk;rw [hmm] at JH;rw [EP] at hho;have HN:=ae hn;have kD:=ae hmm;have HC:=ae hcy;have HH:=ae EP;have HK:Hid (∀W,Below w.heap.size w W→zQ lo hi W.heap.size kb [I ep, .slice A0 n0 a,I lp, .slice R0 n1 r,I st, .slice C m c0,I ho, .slice D0 n3 d0, .slice A n c,I cy] A n (dP z) C m z.trans W):=ae fun W hb=>hk.far (fun k hk _=>hb.block k hk) hb.size;have hkb:=hk.lt.1;clear hn hmm hcy EP QK hlp hst hk hm;refine rP Tryz.func34 rfl ?_;simp only [Tryz.ntmps34,List.size_toArray,List.length_cons,List.length_nil,Nat.reduceAdd,Nat.reduceSub,Array.replicate_succ,Array.replicate_zero,List.push_toArray,List.append_toArray,List.nil_append,List.cons_append];go_upto_region 1 with fail;have H0:=ae (AV.new w #[I 0] 3);have HB0:=ae (ag w (.cells #[I 0] 3));generalize w.alloc (.cells #[I 0] 3)=W0 at H0 HB0 ⊢;have k6:W0.cell? ⟨kb,6,none⟩=some (I ho):=(HK.out W0 HB0.out).k.cell 6;have Lh:=ae (rW kb ho);go_wp2_with fail;refine (Lh.out _).mono ?_;rintro e w8 ⟨rfl,rfl⟩;clear Lh k6;obtain ⟨w8,hw8⟩:∃W,(W0.alloc (.cells #[.pointer (some ⟨kb,0,none⟩)] 85)).alloc (.cells #[I ho] 3)=W:=⟨_,rfl⟩;have hb8:Below W0.heap.size W0 w8:=by rw [←hw8];exact ah (ag W0 _) (ag _ _)
 have hcb:w8.heap[W0.heap.size]? =some (.cells #[.pointer (some ⟨kb,0,none⟩)] 85 (0,0)):=by rw [←hw8];exact heap_alloc2_old W0 _ _
 have htb:w8.heap[W0.heap.size+1]? =some (.cells #[I ho] 3 (0,0)):=by rw [←hw8];exact heap_alloc2_new W0 _ _
 have hs8:w8.heap.size=W0.heap.size+2:=by rw [←hw8];simp
 rw [hw8];clear hw8;have hw0:=H0.out.lt;have HR8:=ae (H0.out.below hb8);have Ej:=ae (ah HB0.out hb8);have V9:=ae ((HK.out w8 Ej.out).fr hcb htb (by omega) (by omega) (Nat.le_refl _));clear hcb htb H0 HB0 hb8;generalize W0.heap.size=cb at V9 hs8 hw0 ⊢;go_wp2_with fail;refine (wpIn_wide (n:=3)).1 ?_;have hyb:=sU z HM.out;have PQ:=xC 2 w8.heap.size kb cb (cb+1) n m n0 n1 n3 a r c0 d0 c A0 R0 A C D0 ep lp st ho cy (dP z) z.trans w8 V9.out (Nat.le_refl _) HN.out kD.out (fun x hx=>by rw [←HH.out];exact (HM.out.tr x hx).2.2) hyb.1 (by rw [←HC.out];exact lD _ HM.out.cal) (by rw [←HC.out];exact (jP _ HM.out.cal).2) hho.1 hho.2 (by have:=hyb.2;have:=HN.out;omega) (by omega) (by omega);have qZ:Hid (∀X,w8.grownBy X (some (cb+1))→∀k,k<w8.heap.size→k≠cb+1→X.heap[k]? =w8.heap[k]?):=ae (fun X hg k hk hn=>hg.block k hk (fun e=>hn (by injection e)));have um:Hid (∀X,w8.grownBy X (some (cb+1))→Below w.heap.size w X):=ae (fun X hg=>Ej.out.grown hg Ej.out.size (fun k e=>by injection e with e;omega));have hsz8:=Ej.out.size;refine wP (P:=fun a0=>Code.wpIn _ _ _ _ _ a0 _) (fun a0 ha0=>?_);have uf:=ae ha0;refine iJ rfl (by omega) (gf:=57) (lb:= #[.pointer (some ⟨cb,0,none⟩), .pointer (some ⟨cb+1,0,none⟩)]) (by rw [ha0];rfl) trivial (enters_of Tryz.func57 (by kernel_rfl) rfl)
  PQ (by omega) (Nat.le_refl _) (Below.refl _ _) (fun _=>rfl)
  (fun pre X=>pre= []∧w8.grownBy X (some (cb+1)))
  (fun c pre X=>FinS w c pre X)
  EE (fun c=>Qv (by omega) (by omega) c) ⟨rfl,World.grownBy.refl _ _⟩ (fun pre X h=>h.1)
  (fun x a' X=>∃q,w8.heap.size≤q∧X.heap[q]? =some (.cells #[I x.1.at_,I x.1.off] 100 (0,0))∧a'=({tmps:=(a0.tmps.setIfInBounds 12 (.agg #[I x.1.at_,I x.1.off])).setIfInBounds 3 (.pointer (some ⟨q,0,none⟩)),defers:= []}:Act))
  (fun x a' _ X Y row hs hg hr=>by obtain ⟨q,h1,h2,h3⟩:=hs;exact ⟨q,h1,qy q _ _ () X Y row h2 hg hr,h3⟩)
  ?assign ?body ?done ?stop
 case assign=>
  rintro l pre ⟨⟨xa,xo⟩,hx⟩ X K ⟨hpre,hgr⟩ hK;have HG2:=ae hgr;have UW:=hgr.size;clear hgr;rw [ha0] at hK ⊢;simp only [List.zip_toArray,List.zip_cons_cons,List.zip_nil_right,List.foldl_toArray,List.foldl_cons,List.foldl_nil,List.setIfInBounds_toArray,List.set_cons_succ,List.set_cons_zero] at hK ⊢
  gi_wp2_with (first|((with_reducible refine pX 100 ?_);refine ik rfl _ rfl #[I 0,I 0] (by kernel_rfl) ?_)|((with_reducible refine mM 100 ?_);go_must (refine dW rfl _ _ _ rfl #[I xa,I xo] rfl rfl 100 #[I 0,I 0] rfl (by kernel_rfl) rfl (by kernel_rfl) ?_);intro W5 hb5 hs5 hh5 oL hk5;have kT:=ae hb5;have Np:=ae hh5;have tu:=ae hk5;clear hb5 hs5 hh5 oL hk5))
  exact hK _ _ (tu.out.from _) (kT.out.mono (by omega)) ⟨hpre,HG2.out.andThen (jm kT.out) (fun j e=>nomatch e)⟩ ⟨X.heap.size,by omega,Np.out,rfl⟩
 case body=>
  rintro l pre ⟨⟨xa,xo⟩,hx⟩ a' X hl _ ⟨rfl,hgr⟩ ⟨q,hq,hblk,rfl⟩;have hr1:X.heap[w.heap.size]? =some (.cells #[I 0] 3 (0,0)):=(qZ.out X hgr _ (by omega) (by omega)).trans HR8.out.var;have HUX:=ae (um.out X hgr);have HR1:=ae hr1;have x0:X.cell? ⟨q,0,none⟩=some (I xa):=cell_of_row X q 0 _ _ _ hblk;have c1:X.cell? ⟨w.heap.size,0,none⟩=some (I 0):=cell_of_row X _ 0 _ _ _ hr1;have f1:X.frozen? ⟨w.heap.size,0,none⟩=false:=frozen_of_row X _ 0 _ _ hr1;clear hgr hblk hr1;rw [ha0];simp only [List.setIfInBounds_toArray,List.set_cons_succ,List.set_cons_zero]
  gi_wp2_with fail
  exact ⟨(KeepsOthers.setCell _ _ _).from _,_,rfl,rfl,heap_setCell_same X _ 0 _ _ _ HR1.out,HUX.out.setCell (p:=⟨w.heap.size,0,none⟩) (Nat.le_refl _) _⟩
 case done=>
  rintro D xs Y hD ⟨rfl,hn0⟩ ⟨_,hgr⟩ G8;have hky:=HK.out Y (um.out Y hgr);have Wq:=ae (um.out Y hgr);have hr1:Y.heap[w.heap.size]? =some (.cells #[I 0] 3 (0,0)):=(qZ.out Y hgr _ (by omega) (by omega)).trans HR8.out.var;have HR1:=ae hr1;have k5:Y.cell? ⟨kb,5,none⟩=some (.slice C m c0):=hky.k.cell 5;have c1:Y.cell? ⟨w.heap.size,0,none⟩=some (I 0):=cell_of_row Y _ 0 _ _ _ hr1;have f1:Y.frozen? ⟨w.heap.size,0,none⟩=false:=frozen_of_row Y _ 0 _ _ hr1;have HDK:=ae G8;clear hgr G8 hn0 hr1;rw [ha0];by_cases hm0:m=0
  ·subst hm0;clear hky;go_wp2_with fail;have hdd:D≠w.heap.size:=by omega
   have YL:(Y.setCell ⟨w.heap.size,0,none⟩ (I 0)).heap[D]? =some (.deferred (some [])):=(heap_setCell_other Y ⟨w.heap.size,0,none⟩ D _ hdd).trans HDK.out;refine jI (v:=I 0) rfl YL (sF rfl _ _ ⟨w.heap.size,0,none⟩ (I 0) rfl (AX _ _ _ ?_)) ⟨0,rfl,by omega,?_⟩
   ·exact cell_of_row _ _ 0 _ _ _ ((World.putObj_heap_other (by omega)).trans (heap_setCell_same Y _ 0 _ _ _ HR1.out))
   ·exact (Wq.out.setCell (p:=⟨w.heap.size,0,none⟩) (Nat.le_refl _) _).grown (grownBy_putObj' _ D _) (Wq.out.setCell (p:=⟨w.heap.size,0,none⟩) (Nat.le_refl _) _).size (fun k e=>by injection e with e;omega)
  ·obtain ⟨p,hp⟩:∃p,m=p+1:=⟨m - 1,by omega⟩;obtain ⟨b,off,rfl,_,hcl⟩:∃b off,C=some ⟨b,off,none⟩∧b<Y.heap.size∧∀k,k<m→Y.cell? ⟨b,off+k*2,none⟩=some (I (df z.trans k))∧Y.cell? ⟨b,off+k*2+1,none⟩=some (I (fD z.trans k)):=by
    rcases hky.tr with h|⟨b,off,h1,h2,h3⟩
    ·exact absurd h hm0
    ·exact ⟨b,off,h1,h2.1,h3⟩
   have e0:=(hcl p (by omega)).1;have hxb:0≤df z.trans p∧df z.trans p≤1000000:=by
    have h1:=HM.out.tr _ (List.getElem_mem (show p<z.trans.length by have:=kD.out;omega));rw [qx (by have:=kD.out;omega)];have:=HH.out;omega
   obtain ⟨xa,hxa⟩:∃x,df z.trans p=x:=⟨_,rfl⟩;rw [hxa] at e0 hxb;clear hcl hxa hky;have hpn:(m:Int) - 1=(p:Int):=by omega
   have hwp:IntKind.i64.wrap (p:Int)=(p:Int):=by rw [IntKind.wrap_i64];omega
   have i0:(0:Int)≤(p:Int):=by omega
   have i1:(p:Int)<(m:Int):=by omega
   have im:(0:Int)<(m:Int):=by omega
   go_wp2_with fail;have hdd:D≠w.heap.size:=by omega
   have YL:(Y.setCell ⟨w.heap.size,0,none⟩ (I xa)).heap[D]? =some (.deferred (some [])):=(heap_setCell_other Y ⟨w.heap.size,0,none⟩ D _ hdd).trans HDK.out;refine jI (v:=I xa) rfl YL (sF rfl _ _ ⟨w.heap.size,0,none⟩ (I xa) rfl (AX _ _ _ ?_)) ⟨xa,rfl,by omega,?_⟩
   ·exact cell_of_row _ _ 0 _ _ _ ((World.putObj_heap_other (by omega)).trans (heap_setCell_same Y _ 0 _ _ _ HR1.out))
   ·exact (Wq.out.setCell (p:=⟨w.heap.size,0,none⟩) (Nat.le_refl _) _).grown (grownBy_putObj' _ D _) (Wq.out.setCell (p:=⟨w.heap.size,0,none⟩) (Nat.le_refl _) _).size (fun k e=>by injection e with e;omega)
 case stop=>
  rintro D c pre Y hD ⟨_,hpre⟩ ⟨x,rfl,rfl,g1,g2⟩ G8;have hx1:=hpre;simp only [List.map_cons,List.map_nil,List.cons.injEq,and_true] at hx1;have hc1:=lD z HM.out.cal;have hc2:=(jP z HM.out.cal).2;rw [HC.out] at hc1 hc2;have hxb:=NK (sz:=cy*1440) hyb.1 (by omega) (by omega) hho.1 hho.2;rw [←hx1] at hxb;have hdd:D≠w.heap.size:=by omega
  rw [ha0];refine (wpIn_wide (n:=3)).2 ?_;go_wp2_with fail;refine jI (v:=I x.1.at_) rfl G8 (sF rfl _ _ ⟨w.heap.size,0,none⟩ (I x.1.at_) rfl (AX _ _ _ ?_)) ⟨x.1.at_,rfl,hxb,?_⟩
  ·exact cell_of_row _ _ 0 _ _ _ ((World.putObj_heap_other (by omega)).trans g1)
  ·exact g2.grown (grownBy_putObj' _ D _) g2.size (fun k e=>by injection e with e;omega)
end Go.Proofs.YtdibbemgpikgjaaGreat
