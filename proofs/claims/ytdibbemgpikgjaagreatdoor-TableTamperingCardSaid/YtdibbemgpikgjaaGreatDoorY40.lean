/- The texts Fc, Fd, Fe, Ff, in this order. -/
import Derived.Test.YtdibbemgpikgjaaGreatDoorY00
import Derived.Laws.AppendOwnNone
import Derived.Test.YtdibbemgpikgjaaGreatDoorY35
import Derived.Test.YtdibbemgpikgjaaGreatDoorY39
set_option maxRecDepth 10000
set_option maxHeartbeats 8000000
namespace Go.Proofs.YtdibbemgpikgjaaGreatDoor
open Go Go.RowKit
theorem lW.take {w:World} {B:Nat} {A:Option Addr} {zs:List dB} (h:lW w B A zs) (k:Nat):lW w B A (zs.take k):=by
 refine ⟨aA.pre (ds:=aO (zs.drop k)) ?_,fun x hx=>h.each x (List.mem_of_mem_take hx)⟩;rw [show aO (zs.take k)++aO (zs.drop k)=aO zs by unfold aO;rw [←List.flatMap_append,List.take_append_drop]];exact h.row
def BentP (w:World) (n:Nat) (ts:List bI) (e:Ending) (w':World):Prop:=
 ∃A' n' c' os,e= .returned (.slice A' n' c')∧Below w.heap.size w w'∧(n'≠n∨(n'=n∧n≤c'∧gq w' w'.heap.size A' os∧(os=ts∨∃i x y,ts[i]? =some x∧zF x y∧os=ts.set i y)))
theorem NG.start {w w1:World} {lo g n cap:Nat} {ts:List bI} (hb:Below w.heap.size w w1) (hge:w.heap.size≤lo) (hown:w1.ownsRow lo 37 68 (.slice (some ⟨g,0,none⟩) n cap) n (ts.flatMap bI.cells)) (he:∀x∈ts,jE w w.heap.size x):NG w g ts w1∧n≤cap:=by
 rcases hown.2 with ⟨h1,_⟩|⟨g',cap',cur,hv,hlo,hh,hnc,hcm,_,ht⟩
 ·cases h1
 ·injection hv with h1 _ h3;injection h1 with h1;injection h1 with h1;subst h1 h3;refine ⟨⟨hb,Nat.le_trans hge hlo,⟨cur,_,hh,fun j v hv=>?_⟩,he⟩,hnc⟩;rw [←ht] at hv;have hj:=(eG.1 hv).1;rw [List.length_take] at hj;rw [List.getElem?_take_of_lt (by omega)] at hv;simpa using hv
theorem Xk (t:Tb) (v:Int) (s:Value):fF {t with aP:=v} s=(fF t s).set 0 (I v):=rfl
theorem Xm (t:Tb) (v:Int) (s:Value):fF {t with version:=v} s=(fF t s).set 1 (I v):=rfl
theorem Xn (t:Tb) (v:Int) (s:Value):fF {t with aC:=v} s=(fF t s).set 2 (I v):=rfl
theorem Xo (t:Tb) (z:List Ze) (s s':Value):fF {t with aK:=z} s'=(fF t s).set 3 s':=rfl
theorem Ug (t:Tb) (j:Nat) (u:UInt8) (s:Value) (hp:t.prev.length=32) (hj:j<32):fF {t with prev:=t.prev.set j u} s=(fF t s).set (4+j) (Extern.Stop.cell u):=by
 rw [qc,qc,List.append_assoc,List.append_assoc];rw [List.set_append_right _ _ (by simp),List.set_append_left _ _ (by simp [aj,hp];omega)];simp [aj,List.map_set]
theorem Xl (t:Tb) (j:Nat) (u:UInt8) (s:Value) (hp:t.prev.length=32):fF {t with bn:=t.bn.set j u} s=(fF t s).set (36+j) (Extern.Stop.cell u):=by
 rw [qc,qc,List.set_append_right _ _ (by simp [aj,hp])];simp [aj,hp,List.map_set]
theorem RV (w:World) (A:Option Addr) (n c:Nat) (ts:List bI) (hn:ts.length=n) (YB:n≤5) (hA:(A=none∧n=0∧c=0)∨∃b off,A=some ⟨b,off,none⟩) (hC:gq w w.heap.size A ts) (hS:∀x∈ts,TbS x) (wh y0 y1:Nat) (hwh:wh<256) (hy0:y0<256) (hy1:y1<256):
  Calls Tryz.prog 11 #[.slice A n c, .int .u8 (wh:Int), .agg #[.int .u8 (y0:Int), .int .u8 (y1:Int)]] w (BentP w n ts):=by
 have G9:=ae hC.each;have HR0:=ae hC.row;have HL:=ae hn;have Ag:=ae hS;have Em:Hid ((ts.flatMap bI.cells).length=n*68):=ae (by rw [dD (s:=68) bI.cells ts (fun x hx=>(hC.each x hx).size),hn]);have Aa:Hid (∀u∈ts.flatMap bI.cells,u.oneCell'=true):=ae (fun u hu=>by
  obtain ⟨x,_,hx⟩:=List.mem_flatMap.1 hu;exact Ar x u hx)
 obtain ⟨i0,hi,hq0,hq1,hq2⟩:=info_parts oQ;have HI:=ae hi;have wM:=ae hq0;have nY:=ae hq1;have lC:=ae hq2;have HX:=ae (AV.new w #[.int .u8 (y0:Int), .int .u8 (y1:Int)] 40);have HB:=ae (ag w (.cells #[.int .u8 (y0:Int), .int .u8 (y1:Int)] 40));clear hi hq0 hq1 hq2 hn hC hS;go_enter Tryz.func11,Tryz.ntmps11;go_upto_region 1 with fail;generalize w.alloc (.cells #[.int .u8 (y0:Int), .int .u8 (y1:Int)] 40)=W0 at HX HB ⊢;have Ye:=ae (gm W0 37 68);have HB1:Hid (Below w.heap.size w (W0.alloc (.cells #[] 37))):=ae (ah HB.out (ag W0 _));have wR:=ae (HX.out.below (ag W0 (.cells #[] 37)));have hw0:=HX.out.lt;by_cases hn0:n=0
 ·subst hn0;have HTN:Hid (ts= []):=ae (List.eq_nil_of_length_eq_zero HL.out);rcases hA with ⟨rfl,_,rfl⟩|⟨cb,co,rfl⟩
  ·go_wp2_with (at_builtin;go_must (refine wpList_append_own_none rfl _ _ 28 rfl W0.heap.size 37 i0 68 Tryz.underlying28 HI.out _ 0 [] rfl Ye.out rfl ?_));go_ret;exact ⟨_,0,0,[],rfl,HB1.out, .inr ⟨rfl,Nat.le_refl _,⟨.inl rfl,fun _ h=>nomatch h⟩, .inl HTN.out.symm⟩⟩
  ·go_wp2_with (at_builtin;go_must (refine wpList_append_own_at _ rfl _ _ 28 rfl W0.heap.size 37 i0 (.agg (ai bQ (.slice none 0 0))) 68 112 Tryz.underlying28 HI.out wM.out nY.out lC.out rfl (by decide) _ 0 [] rfl Ye.out ⟨cb,co,none⟩ 0 c [] rfl rfl (fun _ _ h=>nomatch h) (fun _ h=>nomatch h) (by unfold maxLen;omega) (by omega) (by simp) ?_));intro v' w1 hown hg _ hat;obtain ⟨A3,c3,rfl⟩:=dG hown;have HB2:Hid (Below w.heap.size w w1):=ae (ah HB.out (bG (ag W0 _) Ye.out (by simp) hg));clear hown hg hat;go_wp2_with fail;go_ret;exact ⟨_,0,c3,[],rfl,HB2.out, .inr ⟨rfl,Nat.zero_le _,⟨.inl rfl,fun _ h=>nomatch h⟩, .inl HTN.out.symm⟩⟩
 ·have t0:((n:Int)==0)=false:=by simp;omega
  have t1:(n==0)=false:=by simp;omega
  obtain ⟨cb,co,rfl,hcb,hcl⟩:=HR0.out.there (by rw [Em.out];omega);have NL:Hid (∀j u,(ts.flatMap bI.cells)[j]? =some u→(W0.alloc (.cells #[] 37)).cell? ((⟨cb,co,none⟩:Addr).add j)=some u):=ae (fun j u hu=>by
   rw [show (⟨cb,co,none⟩:Addr).add j=⟨cb,co+j,none⟩ by unfold Addr.add;split<;>simp_all];exact (HB1.out.cell (p:=⟨cb,co+j,none⟩) hcb).trans (hcl j u hu))
  clear hcl;go_wp2_with (at_builtin;go_must (refine wpList_append_own_at _ rfl _ _ 28 rfl W0.heap.size 37 i0 (.agg (ai bQ (.slice none 0 0))) 68 112 Tryz.underlying28 HI.out wM.out nY.out lC.out rfl (by decide) _ 0 [] rfl Ye.out ⟨cb,co,none⟩ n c (ts.flatMap bI.cells) rfl Em.out NL.out Aa.out (by unfold maxLen;omega) (by omega) (by simp) ?_));intro v' w1 hown hg _ hat;try simp only [Nat.zero_add,List.nil_append] at hown ⊢
  obtain ⟨g,cap,rfl,hgl⟩:=dE hown (by omega);have hb1:Below W0.heap.size W0 w1:=bG (ag W0 _) Ye.out (by simp) hg;obtain ⟨hbt,hcap⟩:=NG.start (ah HB.out hb1) (Nat.le_of_lt hw0) hown G9.out;have HT:=ae hbt;have wS:=ae (HX.out.below hb1);obtain ⟨i,hi⟩:∃i:Nat,wh%n=i:=⟨_,rfl⟩;have hin:i<n:=by rw [←hi];exact Nat.mod_lt _ (by omega)
  have him:Int.tmod (wh:Int) (n:Int)=(i:Int):=by rw [Int.tmod_eq_emod_of_nonneg (by omega),←hi,Int.natCast_emod]
  have hne:¬(n:Int)=0:=by omega
  obtain ⟨x,hx⟩:∃x,ts[i]? =some x:=⟨_,bZ (by rw [HL.out];omega)⟩;have Dx:=ae hx;have gQ:=ae (G9.out x (dS hx));obtain ⟨q,hqm⟩:∃q:Int,Int.tmod (y0:Int) 7=q:=⟨_,rfl⟩;have hqb:0≤q∧q<7:=by rw [←hqm,Int.tmod_eq_emod_of_nonneg (by omega)];omega
  have hq6:q=0∨q=1∨q=2∨q=3∨q=4∨q=5∨q=6:=by omega
  have k0:w1.cell? ⟨w.heap.size,0,none⟩=some (.int .u8 (y0:Int)):=wS.out.cell 0;have k1:w1.cell? ⟨w.heap.size,1,none⟩=some (.int .u8 (y1:Int)):=wS.out.cell 1;have i0':(0:Int)≤(i:Int):=by omega
  have J7:(i:Int)<(n:Int):=by omega
  have HCAP:=ae hcap;have HP:=ae gQ.out.prev;have HM:=ae gQ.out.bn;clear hown hg hat hb1 hbt hi hx HB1 wR Ye NL hqb hcap;rcases hq6 with rfl|rfl|rfl|rfl|rfl|rfl|rfl
  ·obtain ⟨v,hv⟩:∃v:Int,Int.tmod (y1:Int) 18=v:=⟨_,rfl⟩;have hvb:0≤v∧v<18:=by rw [←hv,Int.tmod_eq_emod_of_nonneg (by omega)];omega
   have hvw:IntKind.i64.wrap v=v:=by rw [IntKind.wrap_i64];omega
   have cc:w1.cell? ⟨g,i*68+0,none⟩=some (I x.t.aP):=HT.out.cell Dx.out (by omega);have cf:w1.frozen? ⟨g,i*68+0,none⟩=false:=HT.out.dZ _;have HS:=ae (HT.out.set (f:=0) (v:=I v) (y:=⟨{x.t with aP:=v},x.A,x.c,x.zs⟩) Dx.out (by omega) (Xk x.t v _) ⟨gQ.out.names,HP.out,HM.out,gQ.out.aK⟩);have HV:=ae hvb;try simp only [Nat.add_zero] at cc cf HS
   clear hvb;go_wp2_with fail;go_ret;exact ⟨_,n,cap,_,rfl,HS.out.lo, .inr ⟨rfl,HCAP.out,HS.out.chain, .inr ⟨i,x,_,Dx.out, .aP v HV.out.1 HV.out.2,rfl⟩⟩⟩
  ·obtain ⟨v,hv⟩:∃v:Int,Int.tmod (y1:Int) 8=v:=⟨_,rfl⟩;have hvb:0≤v∧v<8:=by rw [←hv,Int.tmod_eq_emod_of_nonneg (by omega)];omega
   have hvw:IntKind.i64.wrap v=v:=by rw [IntKind.wrap_i64];omega
   have cc:w1.cell? ⟨g,i*68+1,none⟩=some (I x.t.version):=HT.out.cell Dx.out (by omega);have cf:w1.frozen? ⟨g,i*68+1,none⟩=false:=HT.out.dZ _;have HS:=ae (HT.out.set (f:=1) (v:=I v) (y:=⟨{x.t with version:=v},x.A,x.c,x.zs⟩) Dx.out (by omega) (Xm x.t v _) ⟨gQ.out.names,HP.out,HM.out,gQ.out.aK⟩);have HV:=ae hvb;try simp only at cc cf HS
   clear hvb;go_wp2_with fail;go_ret;exact ⟨_,n,cap,_,rfl,HS.out.lo, .inr ⟨rfl,HCAP.out,HS.out.chain, .inr ⟨i,x,_,Dx.out, .version v HV.out.1 HV.out.2,rfl⟩⟩⟩
  ·obtain ⟨v,hv⟩:∃v:Int,Int.tmod (y1:Int) 8=v:=⟨_,rfl⟩;have hvb:0≤v∧v<8:=by rw [←hv,Int.tmod_eq_emod_of_nonneg (by omega)];omega
   have hvw:IntKind.i64.wrap v=v:=by rw [IntKind.wrap_i64];omega
   have cc:w1.cell? ⟨g,i*68+2,none⟩=some (I x.t.aC):=HT.out.cell Dx.out (by omega);have cf:w1.frozen? ⟨g,i*68+2,none⟩=false:=HT.out.dZ _;have HS:=ae (HT.out.set (f:=2) (v:=I v) (y:=⟨{x.t with aC:=v},x.A,x.c,x.zs⟩) Dx.out (by omega) (Xn x.t v _) ⟨gQ.out.names,HP.out,HM.out,gQ.out.aK⟩);have HV:=ae hvb;try simp only at cc cf HS
   clear hvb;go_wp2_with fail;go_ret;exact ⟨_,n,cap,_,rfl,HS.out.lo, .inr ⟨rfl,HCAP.out,HS.out.chain, .inr ⟨i,x,_,Dx.out, .aC v HV.out.1 HV.out.2,rfl⟩⟩⟩
  ·obtain ⟨j,hj⟩:∃j:Nat,y1%32=j:=⟨_,rfl⟩;have PQ:j<32:=by omega
   have hv:Int.tmod (y1:Int) 32=(j:Int):=by rw [Int.tmod_eq_emod_of_nonneg (by omega)];omega
   have hj0:(0:Int)≤(j:Int):=by omega
   have hj1:(j:Int)<32:=by omega
   obtain ⟨u,hu⟩:∃u,x.t.prev[j]? =some u:=⟨_,bZ (by have:=gQ.out.prev;omega)⟩;have hxc:x.cells[4+j]? =some (Extern.Stop.cell u):=by
    unfold bI.cells;rw [qc];rw [List.append_assoc,List.getElem?_append_right (by simp),List.getElem?_append_left (by simp [aj,gQ.out.prev];omega)];simp [aj,hu]
   obtain ⟨uv,huv⟩:∃z:Int,(u.toNat:Int)=z:=⟨_,rfl⟩;have cc:w1.cell? ⟨g,i*68+(4+j),none⟩=some (.int .u8 uv):=by rw [←huv];exact (HT.out.cell Dx.out (by omega)).trans hxc
   have cf:w1.frozen? ⟨g,i*68+(4+j),none⟩=false:=HT.out.dZ _;have HS:=ae (HT.out.set (f:=4+j) (v:= .int .u8 (bits BinOp.xor IntKind.u8 uv 1)) (y:=⟨{x.t with prev:=x.t.prev.set j (xb 1 u)},x.A,x.c,x.zs⟩) Dx.out (by omega) (by rw [←huv,←Aw];exact Ug x.t j _ _ HP.out PQ) ⟨gQ.out.names,by simp [HP.out],HM.out,gQ.out.aK⟩);have HJ:=ae PQ;rw [←Nat.add_assoc] at cc cf HS;clear hu hxc huv hj;go_upto_region 16 with fail;go_still_tail 18,(by kernel_rfl);change wpList _ _ _ _ _ w1.drew;go_wp2_with fail;go_ret;exact ⟨_,n,cap,_,rfl,HS.out.lo.drew, .inr ⟨rfl,HCAP.out,(HS.out.chain.grow ((Below.refl _ _).drew)), .inr ⟨i,x,_,Dx.out, .prev j _ HJ.out,rfl⟩⟩⟩
  ·obtain ⟨j,hj⟩:∃j:Nat,y1%32=j:=⟨_,rfl⟩;have PQ:j<32:=by omega
   have hv:Int.tmod (y1:Int) 32=(j:Int):=by rw [Int.tmod_eq_emod_of_nonneg (by omega)];omega
   have hj0:(0:Int)≤(j:Int):=by omega
   have hj1:(j:Int)<32:=by omega
   obtain ⟨u,hu⟩:∃u,x.t.bn[j]? =some u:=⟨_,bZ (by have:=gQ.out.bn;omega)⟩;have hxc:x.cells[36+j]? =some (Extern.Stop.cell u):=by
    unfold bI.cells;rw [qc];rw [List.getElem?_append_right (by simp [aj,gQ.out.prev])];simp [aj,gQ.out.prev,hu]
   obtain ⟨uv,huv⟩:∃z:Int,(u.toNat:Int)=z:=⟨_,rfl⟩;have cc:w1.cell? ⟨g,i*68+(36+j),none⟩=some (.int .u8 uv):=by rw [←huv];exact (HT.out.cell Dx.out (by omega)).trans hxc
   have cf:w1.frozen? ⟨g,i*68+(36+j),none⟩=false:=HT.out.dZ _;have HS:=ae (HT.out.set (f:=36+j) (v:= .int .u8 (bits BinOp.xor IntKind.u8 uv 1)) (y:=⟨{x.t with bn:=x.t.bn.set j (xb 1 u)},x.A,x.c,x.zs⟩) Dx.out (by omega) (by rw [←huv,←Aw];exact Xl x.t j _ _ HP.out) ⟨gQ.out.names,HP.out,by simp [HM.out],gQ.out.aK⟩);have HJ:=ae PQ;rw [←Nat.add_assoc] at cc cf HS;clear hu hxc huv hj;go_upto_region 18 with fail;go_still_tail 18,(by kernel_rfl);change wpList _ _ _ _ _ w1.drew;go_wp2_with fail;go_ret;exact ⟨_,n,cap,_,rfl,HS.out.lo.drew, .inr ⟨rfl,HCAP.out,(HS.out.chain.grow ((Below.refl _ _).drew)), .inr ⟨i,x,_,Dx.out, .bn j _ HJ.out,rfl⟩⟩⟩
  ·obtain ⟨hz0,hz1,hz2⟩:=Ag.out x (dS Dx.out);obtain ⟨xt,xA,xc,xzs⟩:=x;simp only at hz0 hz1 hz2;obtain ⟨zl,hzl⟩:∃m,xzs.length=m:=⟨_,rfl⟩;rw [hzl] at hz0 hz1;obtain ⟨k,hk⟩:∃k:Nat,y1%(zl+1)=k:=⟨_,rfl⟩;have hkl:k≤zl:=by have:=Nat.mod_lt y1 (show 0<zl+1 by omega);omega
   have Wu:Int.tmod (y1:Int) ((zl:Int)+1)=(k:Int):=by rw [Int.tmod_eq_emod_of_nonneg (by omega),←hk,Int.natCast_emod];rfl
   have hne1:¬(zl:Int)+1=0:=by omega
   have hw1:IntKind.i64.wrap ((zl:Int)+1)=(zl:Int)+1:=by rw [IntKind.wrap_i64];omega
   have hw2:IntKind.i64.wrap (y1:Int)=(y1:Int):=by rw [IntKind.wrap_i64];omega
   have hw3:IntKind.i64.wrap (k:Int)=(k:Int):=by rw [IntKind.wrap_i64];omega
   have cc:w1.cell? ⟨g,i*68+3,none⟩=some (.slice xA zl xc):=by rw [←hzl];exact HT.out.cell Dx.out (by omega)
   have cf:w1.frozen? ⟨g,i*68+3,none⟩=false:=HT.out.dZ _;have D5:(⟨{xt with aK:=xt.aK.take k},xA,xc,xzs.take k⟩:bI).cells=(⟨xt,xA,xc,xzs⟩:bI).cells.set 3 (.slice xA k xc):=by
    have:(xzs.take k).length=k:=by rw [List.length_take];omega
    unfold bI.cells;rw [this];exact Xo xt _ _ _
   have HS:=ae (HT.out.set (f:=3) (v:= .slice xA k xc) (y:=⟨{xt with aK:=xt.aK.take k},xA,xc,xzs.take k⟩) Dx.out (by omega) D5 ⟨by show xt.aK.take k=_;rw [show xt.aK=xzs.map (·.e) from gQ.out.names,List.map_take],HP.out,HM.out,gQ.out.aK.take k⟩);have oJ:Hid (k≤xzs.length):=ae (by rw [hzl];exact hkl);have q0:(0:Int)≤(k:Int):=by omega
   have q1:(k:Int)≤(zl:Int):=by omega
   have q2:(k:Int)≤(xc:Int):=by omega
   have q3:¬(xc:Int)<(k:Int):=by omega
   clear hk D5 hzl;rcases hz2 with ⟨rfl,rfl⟩|⟨zb,zo,rfl⟩
   ·obtain rfl:zl=0:=by omega
    obtain rfl:k=0:=by omega
    have e1:IntKind.i64.wrap 1=1:=by decide
    have e2:Int.tmod (y1:Int) 1=0:=by simp
    clear Wu hne1 hw1 hw3 q0 q1 q2 q3 hz1 hkl;go_upto_region 20 with fail;go_still_tail 21,(by kernel_rfl);change wpList _ _ _ _ _ w1.drew;go_wp2_with fail;go_ret;exact ⟨_,n,cap,_,rfl,HS.out.lo.drew, .inr ⟨rfl,HCAP.out,(HS.out.chain.grow ((Below.refl _ _).drew)), .inr ⟨i,_,_,Dx.out, .aK 0 oJ.out,rfl⟩⟩⟩
   ·go_upto_region 20 with fail;go_still_tail 21,(by kernel_rfl);change wpList _ _ _ _ _ w1.drew;go_wp2_with fail;go_ret;exact ⟨_,n,cap,_,rfl,HS.out.lo.drew, .inr ⟨rfl,HCAP.out,(HS.out.chain.grow ((Below.refl _ _).drew)), .inr ⟨i,_,_,Dx.out, .aK k oJ.out,rfl⟩⟩⟩
  ·have HTC:=ae HT.out.chain;have Yz:(ts.take i).length=i:=by rw [List.length_take,HL.out];omega
   have Ha:Hid (((ts.take i).flatMap bI.cells).length=i*68):=ae (by rw [dD (s:=68) bI.cells (ts.take i) (fun x hx=>(G9.out x (List.mem_of_mem_take hx)).size),Yz]);have Fz:Hid (∀W,Below w1.heap.size w1 W→∀j u,((ts.take i).flatMap bI.cells)[j]? =some u→W.cell? ((⟨g,0,none⟩:Addr).add j)=some u):=ae (fun W hb j u hu=>by
    have h1:=(aA.pre (ds:=(ts.drop i).flatMap bI.cells) (by rw [←List.flatMap_append,List.take_append_drop];exact HTC.out.row)).there (by have:=(eG.1 hu).1;omega);obtain ⟨b2,o2,e,hb2,hc2⟩:=h1;injection e with e;injection e with e1 e2;subst e1 e2;rw [show (⟨g,0,none⟩:Addr).add j=⟨g,0+j,none⟩ by unfold Addr.add;split<;>simp_all];exact (hb.cell (p:=⟨g,0+j,none⟩) hb2).trans (hc2 j u hu))
   have O6:Hid (∀u∈(ts.take i).flatMap bI.cells,u.oneCell'=true):=ae (fun u hu=>by
    obtain ⟨z,_,hz⟩:=List.mem_flatMap.1 hu;exact Ar z u hz)
   have i2:(i:Int)≤(cap:Int):=by have:=HCAP.out;omega
   have i3:¬(cap:Int)<(i:Int):=by omega
   clear Yz;go_upto_region 8 with (at_builtin;go_must (refine wpList_append_own_at _ rfl _ _ 28 rfl w1.heap.size 37 i0 (.agg (ai bQ (.slice none 0 0))) 68 112 Tryz.underlying28 HI.out wM.out nY.out lC.out rfl (by decide) (.slice none 0 0) 0 [] rfl (World.ownsRow_nil _ _ _ _) ⟨g,0,none⟩ i cap ((ts.take i).flatMap bI.cells) rfl Ha.out (Fz.out w1 (Below.refl _ _)) O6.out (by unfold maxLen;omega) (by omega) (Nat.le_refl _) ?_));intro v2 w2 hown2 hg2 _ _;obtain ⟨A2,c2,rfl⟩:=dG hown2;have hb2:Below w1.heap.size w1 w2:=⟨hg2.os,hg2.tape,hg2.output,hg2.size,fun k hk=>hg2.block k hk (by simp [Value.ownBlock])⟩;have pI:=ae hown2;have pG:=ae hb2;clear hown2 hg2 hb2 Fz Ha O6;have i4:IntKind.i64.wrap ((i:Int)+1)=(i:Int)+1:=by rw [IntKind.wrap_i64];omega
   have i5:(i:Int)+1≤(n:Int):=by omega
   have i6:¬(n:Int)<(i:Int)+1:=by omega
   have i7:(0:Int)≤(i:Int)+1:=by omega
   have hdl:(ts.drop (i+1)).length=n - (i+1):=by rw [List.length_drop,HL.out]
   have Zh:Hid (((ts.drop (i+1)).flatMap bI.cells).length=(n - (i+1))*68):=ae (by rw [dD (s:=68) bI.cells (ts.drop (i+1)) (fun x hx=>(G9.out x (List.mem_of_mem_drop hx)).size),hdl]);have HO8:Hid (∀u∈(ts.drop (i+1)).flatMap bI.cells,u.oneCell'=true):=ae (fun u hu=>by
    obtain ⟨z,_,hz⟩:=List.mem_flatMap.1 hu;exact Ar z u hz)
   have HC8:Hid (∀j u,((ts.drop (i+1)).flatMap bI.cells)[j]? =some u→w2.cell? ((⟨g,(i+1)*68,none⟩:Addr).add j)=some u):=ae (fun j u hu=>by
    have hsp:ts.flatMap bI.cells=(ts.take (i+1)).flatMap bI.cells++(ts.drop (i+1)).flatMap bI.cells:=by rw [←List.flatMap_append,List.take_append_drop]
    have htk:((ts.take (i+1)).flatMap bI.cells).length=(i+1)*68:=by rw [dD (s:=68) bI.cells (ts.take (i+1)) (fun x hx=>(G9.out x (List.mem_of_mem_take hx)).size),List.length_take,HL.out,Nat.min_eq_left (by omega)]
    have h2:(ts.flatMap bI.cells)[(i+1)*68+j]? =some u:=by rw [hsp,List.getElem?_append_right (by omega),htk,Nat.add_sub_cancel_left];exact hu
    obtain ⟨b2,o2,e,hb2,hc2⟩:=HTC.out.row.there (by have:=(eG.1 h2).1;omega);injection e with e;injection e with e1 e2;subst e1 e2;have h3:=hc2 _ _ h2;rw [Nat.zero_add] at h3;rw [show (⟨g,(i+1)*68,none⟩:Addr).add j=⟨g,(i+1)*68+j,none⟩ by unfold Addr.add;split<;>simp_all];exact (pG.out.cell (p:=⟨g,(i+1)*68+j,none⟩) hb2).trans h3)
   clear hdl;by_cases hcc:cap=i+1
   ·have hni:n=i+1:=by have:=HCAP.out;omega
    subst hni;subst hcc;clear Zh HC8 HO8;go_wp2_with (at_builtin;go_must (refine wpList_append_own_at _ rfl _ _ 28 rfl w1.heap.size 37 i0 (.agg (ai bQ (.slice none 0 0))) 68 112 Tryz.underlying28 HI.out wM.out nY.out lC.out rfl (by decide) (.slice A2 i c2) i ((ts.take i).flatMap bI.cells) rfl pI.out ⟨g,0,none⟩ 0 0 [] rfl rfl (fun _ _ h=>nomatch h) (fun _ h=>nomatch h) (by unfold maxLen;omega) (by omega) pG.out.size ?_));intro v3 w3 hown3 hg3 _ _;obtain ⟨A3,c3,rfl⟩:=dG hown3;have QF:Hid (Below w.heap.size w w3):=ae (bG (HT.out.lo.trans (pG.out.mono HT.out.lo.size)) (bf pI.out HT.out.lo.size) (Nat.le_trans HT.out.lo.size pG.out.size) hg3);clear hown3 hg3;go_wp2_with fail;go_ret;exact ⟨A3,_,c3,[],rfl,QF.out, .inl (by omega)⟩
   ·go_wp2_with (at_builtin;go_must (refine wpList_append_own_at _ rfl _ _ 28 rfl w1.heap.size 37 i0 (.agg (ai bQ (.slice none 0 0))) 68 112 Tryz.underlying28 HI.out wM.out nY.out lC.out rfl (by decide) (.slice A2 i c2) i ((ts.take i).flatMap bI.cells) rfl pI.out ⟨g,(i+1)*68,none⟩ (n - (i+1)) (cap - (i+1)) ((ts.drop (i+1)).flatMap bI.cells) rfl Zh.out HC8.out HO8.out (by unfold maxLen;omega) (by omega) pG.out.size ?_));intro v3 w3 hown3 hg3 _ _;obtain ⟨A3,c3,rfl⟩:=dG hown3;have QF:Hid (Below w.heap.size w w3):=ae (bG (HT.out.lo.trans (pG.out.mono HT.out.lo.size)) (bf pI.out HT.out.lo.size) (Nat.le_trans HT.out.lo.size pG.out.size) hg3);clear hown3 hg3;go_wp2_with fail;go_ret;exact ⟨A3,_,c3,[],rfl,QF.out, .inl (by have:=HL.out;omega)⟩
structure Ig (t:Tb):Prop where
 i0:0≤t.aP
 v0:0≤t.version∧t.version≤64
 w0:0≤t.aC
 prev:t.prev.length=32
 bn:t.bn.length=32
 bad:16≤t.aP∨t.version<1∨t.version≤t.aC∨(t.version=1∧¬t.prev=aU)
theorem D6 (zs:List dB) (K k:Nat) (h:k≤K):fK (zs.take K) k=fK zs k:=by
 cases k with
 |zero=>rfl
 |succ k=>
  show ((zs.take K)[k]?.map (·.e.name)).getD ⟨#[]⟩=_;rw [List.getElem?_take_of_lt (by omega)];rfl
theorem jv.take {zs:List dB} (h:jv zs) (K:Nat):jv (zs.take K):=by
 intro k x hx;have hk:k<K:=by
  have:=(eG.1 hx).1;rw [List.length_take] at this;omega
 rw [List.getElem?_take_of_lt hk] at hx;rw [D6 zs K k (by omega)];exact h k x hx
theorem zF.head {x y:bI} (h:zF x y) (hx:jr x):jr y∨Ig y.t:=by
 obtain ⟨hg,hu⟩:=hx;have hv0:0≤x.t.version:=by have:=hg.version.1;omega
 cases h with
 |aP v h0 h1=>
  by_cases h2:v<16
  ·exact .inl ⟨⟨⟨h0,h2⟩,hg.version,hg.aC,hg.prev,hg.bn,hg.first,hg.num,hg.good,hg.short⟩,hu⟩
  ·exact .inr ⟨h0,⟨hv0,hg.version.2⟩,hg.aC.1,hg.prev,hg.bn, .inl (by show 16≤v;omega)⟩
 |version v h0 h1=>
  by_cases h2:1≤v∧x.t.aC<v∧(v=1→x.t.prev=aU)
  ·exact .inl ⟨⟨hg.aP,⟨h2.1,by show v≤64;omega⟩,⟨hg.aC.1,h2.2.1⟩,hg.prev,hg.bn,h2.2.2,hg.num,hg.good,hg.short⟩,hu⟩
  ·refine .inr ⟨hg.aP.1,⟨h0,by show v≤64;omega⟩,hg.aC.1,hg.prev,hg.bn,?_⟩;show 16≤x.t.aP∨v<1∨v≤x.t.aC∨(v=1∧¬x.t.prev=aU);by_cases a:1≤v
   ·by_cases b:x.t.aC<v
    ·refine .inr (.inr (.inr ?_));by_cases c:v=1
     ·exact ⟨c,fun d=>h2 ⟨a,b,fun _=>d⟩⟩
     ·exact absurd ⟨a,b,fun d=>absurd d c⟩ h2
    ·exact .inr (.inr (.inl (by omega)))
   ·exact .inr (.inl (by omega))
 |aC v h0 h1=>
  by_cases h2:v<x.t.version
  ·exact .inl ⟨⟨hg.aP,hg.version,⟨h0,h2⟩,hg.prev,hg.bn,hg.first,hg.num,hg.good,hg.short⟩,hu⟩
  ·exact .inr ⟨hg.aP.1,⟨hv0,hg.version.2⟩,h0,hg.prev,hg.bn, .inr (.inr (.inl (by show x.t.version≤v;omega)))⟩
 |prev j u hj=>
  have hl:(x.t.prev.set j u).length=32:=by rw [List.length_set];exact hg.prev
  by_cases h2:x.t.version=1→x.t.prev.set j u=aU
  ·exact .inl ⟨⟨hg.aP,hg.version,hg.aC,hl,hg.bn,h2,hg.num,hg.good,hg.short⟩,hu⟩
  ·refine .inr ⟨hg.aP.1,⟨hv0,hg.version.2⟩,hg.aC.1,hl,hg.bn, .inr (.inr (.inr ?_))⟩;by_cases a:x.t.version=1
   ·exact ⟨a,fun d=>h2 fun _=>d⟩
   ·exact absurd (fun d=>absurd d a) h2
 |bn j u hj=>exact .inl ⟨⟨hg.aP,hg.version,hg.aC,hg.prev,by show (x.t.bn.set j u).length=32;rw [List.length_set];exact hg.bn,hg.first,hg.num,hg.good,hg.short⟩,hu⟩
 |aK k hk=>
  exact .inl ⟨⟨hg.aP,hg.version,hg.aC,hg.prev,hg.bn,hg.first,by show (x.t.aK.take k).length≤128;rw [List.length_take];have:=hg.num;omega,fun e he=>hg.good e (List.mem_of_mem_take he),fun e he=>hg.short e (List.mem_of_mem_take he)⟩,hu.take k⟩
theorem zF.same {x y:bI} (h:zF x y) (hx:jr x) (hn:x.t.aK=x.zs.map (·.e)) (he:jb x.t=jb y.t):y=x:=by
 obtain ⟨hg,hu⟩:=hx;have q1:=hg.aP;have q2:=hg.version;have q3:=hg.aC;have q4:=hg.num;cases h with
 |aP v h0 h1=>
  have e:=PW (t:=x.t) (v:=v) ⟨by omega,by omega⟩ ⟨h0,by omega⟩ he;subst e;rfl
 |version v h0 h1=>
  have e:=LY (t:=x.t) (v:=v) ⟨by omega,by omega⟩ ⟨h0,by omega⟩ he;subst e;rfl
 |aC v h0 h1=>
  have e:=Gm (t:=x.t) (v:=v) ⟨by omega,by omega⟩ ⟨h0,by omega⟩ he;subst e;rfl
 |prev j u hj=>
  have e:=WJ (t:=x.t) (p:=x.t.prev.set j u) hg.prev (by rw [List.length_set];exact hg.prev) he;show (⟨{x.t with prev:=x.t.prev.set j u},x.A,x.c,x.zs⟩:bI)=x;rw [e]
 |bn j u hj=>
  have e:=lk_mac (t:=x.t) (m:=x.t.bn.set j u) he;show (⟨{x.t with bn:=x.t.bn.set j u},x.A,x.c,x.zs⟩:bI)=x;rw [e]
 |aK k hk=>
  have e:=TL (t:=x.t) (k:=k) (by omega) he;have e2:x.zs.take k=x.zs:=by
   have h1:=congrArg List.length e;rw [List.length_take,hn,List.length_map] at h1;exact List.take_of_length_le (by omega)
  show (⟨{x.t with aK:=x.t.aK.take k},x.A,x.c,x.zs.take k⟩:bI)=x;rw [e,e2]
def wW (ts os:List bI):Prop:=os=ts∨∃(i:Nat) (x y:bI),ts[i]? =some x∧zF x y∧os=ts.set i y
theorem wW.len {ts os:List bI} (h:wW ts os):os.length=ts.length:=by
 rcases h with rfl|⟨i,x,y,_,_,rfl⟩
 ·rfl
 ·rw [List.length_set]
theorem wW.good {ts os:List bI} (h:wW ts os) (hg:∀x∈ts,jr x):(∀x∈os,jr x)∨∃(i:Nat) (y:bI),os[i]? =some y∧Ig y.t∧∀j,j<i→os[j]? =ts[j]? :=by
 rcases h with rfl|⟨i,x,y,hx,hm,rfl⟩
 ·exact .inl hg
 ·have hi:=(eG.1 hx).1;rcases hm.head (hg x (dS hx)) with h1|h1
  ·refine .inl fun z hz=>?_;rcases List.mem_or_eq_of_mem_set hz with h2|h2
   ·exact hg z h2
   ·exact h2▸h1
  ·exact .inr ⟨i,y,by rw [List.getElem?_set_self hi],h1,fun j hj=>by rw [List.getElem?_set_ne (by omega)]⟩
theorem wW.same {ts os:List bI} (h:wW ts os) (hg:∀x∈ts,jr x) (hn:∀x∈ts,x.t.aK=x.zs.map (·.e)) (hl:∀(i:Nat) (x y:bI),ts[i]? =some x→os[i]? =some y→jb x.t=jb y.t):os=ts:=by
 rcases h with rfl|⟨i,x,y,hx,hm,rfl⟩
 ·rfl
 ·have hi:=(eG.1 hx).1;have e:=hm.same (hg x (dS hx)) (hn x (dS hx)) (hl i x y hx (by rw [List.getElem?_set_self hi]));rw [e];refine List.ext_getElem? fun j=>?_;by_cases hj:i=j
  ·subst hj;rw [List.getElem?_set_self hi,hx]
  ·rw [List.getElem?_set_ne hj]
attribute [local go_sem] jy jA jQ bD
theorem CS (t:Tb) (A:Option Addr) (n c:Nat) (w:World) (h:Ig t):
  Calls Tryz.prog 26 #[.agg (ai t (.slice A n c))] w (Gives (I 1) w):=by
 have HR0:=ae (Row.new w (ai t (.slice A n c)) 37);have HB0:=ae (ag w (.cells (ai t (.slice A n c)) 37));have k0:=HR0.out.2;have q1:=h.i0;have q3:=h.v0.1;have q4:=h.v0.2;have q5:=h.w0;have HF:=ae h;have NI:=h.bad;clear h;by_cases h1:16≤t.aP
 ·clear NI q3 q4 q5;go_enter Tryz.func26,Tryz.ntmps26;go_wp2_with fail;go_ret;exact ⟨rfl,HB0.out⟩
 ·have h1':t.aP<16:=by omega
  by_cases h2:t.version<1
  ·clear NI q4 q5;go_enter Tryz.func26,Tryz.ntmps26;go_wp2_with fail;go_ret;exact ⟨rfl,HB0.out⟩
  ·have h2':1≤t.version:=by omega
   by_cases h3:t.version≤t.aC
   ·clear NI;go_enter Tryz.func26,Tryz.ntmps26;go_wp2_with fail;go_ret;exact ⟨rfl,HB0.out⟩
   ·have h3':t.aC<t.version:=by omega
    obtain ⟨hv,hp⟩:t.version=1∧¬t.prev=aU:=by
     rcases NI with a|a|a|a
     ·exact absurd a h1
     ·exact absurd a h2
     ·exact absurd a h3
     ·exact a
    have hneq:∀W,(binOp .neq 23 (.agg (aj t.prev).toArray) (.agg (aj aU).toArray)).run Tryz.prog W= .ok (.bool true) W:=fun W=>by
     rw [Ap W _ _ HF.out.prev rfl,beq_eq_false_iff_ne.2 hp];rfl
    have h32:(Tryz.prog.info? 23).map (·.size)=some (aj t.prev).length:=by rw [show (aj t.prev).length=32 by simp [aj,HF.out.prev]];kernel_rfl
    have HP:=ae (mY t (.slice A n c) HR0.out);have QE:=ae h32;clear hp h32 NI h1 h2 h3;rw [oG] at hneq;go_enter Tryz.func26,Tryz.ntmps26;go_wp2_with (with_reducible refine dN 23 ?_;refine bP rfl _ _ rfl w.heap.size 4 rfl (aj t.prev) HP.out _ Tryz.underlying23 rfl QE.out ?_);go_ret;exact ⟨rfl,HB0.out⟩
theorem CP (t:Tb) (A:Option Addr) (n c:Nat) (w:World) (h:Ig t):
  Calls Tryz.prog 9 #[.agg (ai t (.slice A n c))] w (Gives (.tuple #[.slice none 0 0,I 1]) w):=by
 have HR0:=ae (Row.new w (ai t (.slice A n c)) 37);have HB0:=ae (ag w (.cells (ai t (.slice A n c)) 37));have dR:Hid (∀v,(Tryz.prog.info? 37).map (·.size)=some (ai t v).size):=ae fun v=>bU t v h.prev h.bn;have HV:Hid (∀W,Calls Tryz.prog 26 #[.agg (ai t (.slice A n c))] W (Gives (I 1) W)):=ae fun W=>CS t A n c W h;clear h;go_enter Tryz.func9,Tryz.ntmps9;go_wp2_with (with_reducible refine dN 37 ?_;refine aY rfl _ _ rfl w.heap.size rfl (ai t (.slice A n c)) HR0.out _ Tryz.underlying37 rfl (dR.out _) ?_);refine (HV.out _).mono ?_;rintro e w1 ⟨rfl,hb1⟩;have HB1:=ae (ah HB0.out hb1);clear hb1 HR0 HB0 HV;go_wp2_with fail;go_ret2;exact ⟨rfl,HB1.out⟩
theorem Px (w:World) (key:List UInt8) (x:bI) (h:Ig x.t) (C:Option Addr) (m cc:Nat) (hm1:m<64):
  Calls Tryz.prog 28 #[.slice C m cc, .agg (cellsB key), .agg (ai x.t (.slice x.A x.zs.length x.c))] w (Gives (I 3) w):=by
 obtain ⟨n,hn⟩:∃n,x.zs.length=n:=⟨_,rfl⟩;obtain ⟨t,ht⟩:∃t,x.t=t:=⟨_,rfl⟩;rw [hn,ht];rw [ht] at h;have H0:=ae (V2.start w 23 (cellsB key) 37 (ai t (.slice x.A n x.c)));have dR:Hid (∀v,(Tryz.prog.info? 37).map (·.size)=some (ai t v).size):=ae fun v=>bU t v h.prev h.bn;have uZ:Hid (∀W,Calls Tryz.prog 9 #[.agg (ai t (.slice x.A n x.c))] W (Gives (.tuple #[.slice none 0 0,I 1]) W)):=ae fun W=>CP t x.A n x.c W h;have i0:¬(64:Int)≤(m:Int):=by omega
 clear h hn ht;go_enter Tryz.func28,Tryz.ntmps28;go_upto_region 1 with fail;generalize (w.alloc (.cells (cellsB key) 23)).alloc (.cells (ai t (.slice x.A n x.c)) 37)=W0 at H0 ⊢;go_wp2_with ((with_reducible refine fU 37 ?_);go_must (refine aT rfl _ _ rfl (w.heap.size+1) rfl (ai t (.slice x.A n x.c)) H0.out.r.iY _ Tryz.underlying37 rfl (dR.out _) ?_));refine (uZ.out W0).mono ?_;rintro e w1 ⟨rfl,b1⟩;have H1:=ae (H0.out.grow b1);clear b1 H0 uZ;go_wp2_with fail;go_ret;exact ⟨rfl,H1.out.lo⟩
theorem KY (KR:List Int) (hK:KR.length=64) (w:World) (hG:fD w 0 (au KR)) (hw1:0<w.heap.size) (key:List UInt8) (hk:key.length=32)
  (C:Option Addr) (m cc:Nat) (ts os:List bI) (hm:os.length=m) (hm1:m≤5) (hcc:m≤cc) (hC:gq w w.heap.size C os) (hg:∀x∈ts,jr x) (ha:jT KR key ts) (hb:wW ts os):
  Calls Tryz.prog 8 #[.slice C m cc, .agg (cellsB key)] w (fun e w'=>∃r,e= .returned (I r)∧(r=0→(∀x∈os,jr x)∧jT KR key os)∧Below w.heap.size w w'):=by
 rcases hb.good hg with h1|⟨i,y,hy,hbad,hpre⟩
 ·refine (KZ KR hK w hG hw1 key hk C m cc os hm (by omega) hcc hC h1).mono ?_;rintro e w' ⟨r,he,hc,hbl⟩;refine ⟨r,he,fun h0=>⟨h1,?_⟩,hbl⟩;rcases hc with ⟨_,h2⟩|⟨h2,_⟩
  ·exact h2
  ·exact absurd h0 h2
 ·refine (EH w key hk C m cc os hm (by omega) hcc hC (fun k=>if k=i then 3 else 0) (ae fun k x hx hz W hb=>?_)).mono ?_
  ·have hkl:=(eG.1 hx).1;by_cases hki:k=i
   ·subst hki;obtain rfl:y=x:=Option.some.inj (hy.symm.trans hx);simp only [if_true];exact Px W key y hbad C k cc (by omega)
   ·have hlt:k<i:=by
     rcases Nat.lt_or_ge k i with h|h
     ·exact h
     ·have:=hz i y (by omega) hy;simp at this
    have hxt:ts[k]? =some x:=(hpre k hlt).symm.trans hx;have htk:os.take k=ts.take k:=List.ext_getElem? fun j=>by
     by_cases hj:j<k
     ·rw [List.getElem?_take_of_lt hj,List.getElem?_take_of_lt hj,hpre j (by omega)]
     ·rw [List.getElem?_eq_none (by rw [List.length_take];omega),List.getElem?_eq_none (by rw [List.length_take];omega)]
    have hgx:=hg x (dS hxt);simp only [hki,if_false];exact Bv KR hK W (hG.via hb hw1) (dP hw1 hb.size) key hk x.t x.A x.zs.length x.c x.zs hgx.1 (hC.each x (dS hx)).names rfl ((hC.each x (dS hx)).aK.grow hb) hgx.2 C k cc (os.take k) (by rw [List.length_take];omega) (by omega) ((hC.take k).grow hb) (fun z hz=>by rw [htk] at hz;exact hg z (List.mem_of_mem_take hz)) _ (by rw [htk];exact ha k x hxt)
  ·rintro e w' ⟨r,he,hc,hbl⟩;refine ⟨r,he,fun h0=>?_,hbl⟩;rcases hc with ⟨_,h2⟩|⟨h2,_⟩
   ·have:=h2 i y hy;simp at this
   ·exact absurd h0 h2
end Go.Proofs.YtdibbemgpikgjaaGreatDoor
namespace Go.Proofs.YtdibbemgpikgjaaGreatDoor
open Go Go.RowKit
def ZX (w:World) (bs:List UInt8) (e:Ending) (w':World):Prop:=
 (∃g c,e= .returned (.slice (some ⟨g,0,none⟩) bs.length c)∧w'.ownsRow w.heap.size 5 1 (.slice (some ⟨g,0,none⟩) bs.length c) bs.length (bs.map Extern.Stop.cell))∧Below w.heap.size w w'
theorem LW (t:Tb) (A:Option Addr) (n c:Nat) (zs:List dB) (w:World) (h:VH t) (hzz:t.aK=zs.map (·.e)) (hn:zs.length=n) (hA:lW w w.heap.size A zs) (hup:jv zs):
  Calls Tryz.prog 13 #[.agg (ai t (.slice A n c))] w (ZX w (jb t)):=by
 have HF:=ae h;have dR:Hid (∀v,(Tryz.prog.info? 37).map (·.size)=some (ai t v).size):=ae fun v=>bU t v h.prev h.bn;have uZ:Hid (∀W,Below w.heap.size w W→Calls Tryz.prog 9 #[.agg (ai t (.slice A n c))] W (Bj W (mQ t))):=ae fun W hb=>nS t A n c zs W h hzz hn (hA.grow hb) hup;have H0:Hid (AV w.heap.size 37 (ai t (.slice A n c)) (w.alloc (.cells (ai t (.slice A n c)) 37))):=ae (AV.new w _ _);have HB0:=ae (ag w (.cells (ai t (.slice A n c)) 37));have yR:=ae (uK t h);obtain ⟨N,hN⟩:∃N,(mQ t).length=N:=⟨_,rfl⟩;have HN:=ae hN;have hL:(jb t).length=N+32:=by unfold jb;rw [aZ,hN,h.bn]
 have HL:=ae hL;clear h hzz hn hA hup hN hL;go_enter Tryz.func13,Tryz.ntmps13;go_upto_region 1 with fail;generalize w.alloc (.cells (ai t (.slice A n c)) 37)=W0 at H0 HB0 ⊢;go_wp2_with ((with_reducible refine fU 37 ?_);go_must (refine aT rfl _ _ rfl w.heap.size rfl (ai t (.slice A n c)) H0.out.iY _ Tryz.underlying37 rfl (dR.out _) ?_));refine (uZ.out W0 HB0.out).mono ?_;rintro e w1 ⟨⟨g1,c1,rfl,o1⟩,b1⟩;have H1:=ae (H0.out.below b1);have hw0:=H0.out.lt;have hs1:W0.heap.size≤w1.heap.size:=b1.size;rw [HN.out] at o1 ⊢;have Aa:Hid (nH W0.heap.size w1 (some ⟨g1,0,none⟩) N c1 (mQ t)):=ae o1;have hn1:N≤18000:=by rw [←HN.out];exact yR.out.2
 have wL:Hid (aA w1 w1.heap.size (some ⟨w.heap.size,36,none⟩) (t.bn.map Extern.Stop.cell)):=ae (.inr ⟨w.heap.size,36,rfl,by have:=H1.out.lt;omega,yD t (.slice A n c) (Row.jm H1.out.var) HF.out.prev⟩);have HB1:=ae (ah HB0.out b1);clear o1 b1 H0 uZ;go_wp2_with (at_builtin;go_must (refine jk rfl _ _ rfl W0.heap.size N c1 (some ⟨g1,0,none⟩) (mQ t) rfl Aa.out _ (some ⟨w.heap.size,36,none⟩) 32 32 t.bn rfl HF.out.bn (by omega) wL.out (by omega) hs1 ?_));intro A3 c3 w3 o3 k3;obtain ⟨g3,c4,hv3,hg3⟩:=dE (show w3.ownsRow _ _ 1 (.slice A3 (N+32) c3) (N+32) _ from o3) (by omega);injection hv3 with e1 _ e3;subst e1 e3;have vg:Hid (w3.ownsRow W0.heap.size 5 1 (.slice (some ⟨g3,0,none⟩) (N+32) c3) (N+32) ((jb t).map Extern.Stop.cell)):=ae o3;have HB3:Hid (Below w.heap.size w w3):=ae (HB1.out.trans ((k3.uX Aa.out.base hs1).mono HB0.out.size));clear o3 k3 Aa wL;go_wp2_with fail;go_ret;exact ⟨⟨g3,c3,by rw [HL.out];rfl,by rw [HL.out];exact bf vg.out (by omega)⟩,HB3.out⟩
def SbP (w:World) (bs cs:List UInt8) (e:Ending) (w':World):Prop:=∃b,e= .returned (.bool b)∧(b=true→bs=cs)∧Below w.heap.size w w'
theorem D9 (A A2:Option Addr) (n m c c2:Nat) (bs cs:List UInt8) (w:World) (hl:bs.length=n) (hl2:cs.length=m) (hn:n≤1000000) (h1:aA w w.heap.size A (bs.map Extern.Stop.cell)) (h2:aA w w.heap.size A2 (cs.map Extern.Stop.cell)):
  Calls Tryz.prog 14 #[.slice A n c, .slice A2 m c2] w (SbP w bs cs):=by
 by_cases hnm:n=m
 ·subst hnm;have H1:=ae h1;have H2:=ae h2;have HL:=ae hl;have HL2:=ae hl2;clear h1 h2 hl hl2;go_enter Tryz.func14,Tryz.ntmps14;go_wp2_with fail
  go_loopw [5] (fun i wr=>∃k:Nat,k≤n∧i=I k∧(∀j,j<k→bs[j]? =cs[j]?)∧∃m,wr=w.drewN m) (fun i _=>n - (intOf i).toNat)
  case atStart=>exact ⟨0,Nat.zero_le _,rfl,fun _ h=>absurd h (Nat.not_lt_zero _),0,rfl⟩
  case round=>
   obtain ⟨k,hk,rfl,hz,m,rfl⟩:=hrel;have HZ:=ae hz;clear hz;by_cases hlt:(k:Int)<(n:Int)
   ·have hk2:k<n:=by omega
    obtain ⟨b,off,rfl,hb,hc⟩:=H1.out.there (by rw [List.length_map,HL.out];omega);obtain ⟨b2,xq,rfl,hb2,hc2⟩:=H2.out.there (by rw [List.length_map,HL2.out];omega);obtain ⟨x,hx⟩:∃x,bs[k]? =some x:=⟨_,bZ (by rw [HL.out];exact hk2)⟩;obtain ⟨y,hy⟩:∃y,cs[k]? =some y:=⟨_,bZ (by rw [HL2.out];exact hk2)⟩;have e1:w.cell? ⟨b,off+k,none⟩=some (.int .u8 (x.toNat:Int)):=hc k _ (by rw [List.getElem?_map,hx];rfl);have e2:w.cell? ⟨b2,xq+k,none⟩=some (.int .u8 (y.toNat:Int)):=hc2 k _ (by rw [List.getElem?_map,hy];rfl);have HX:=ae hx;have HY:=ae hy;clear hc hc2 hx hy;by_cases hxy:x=y
    ·subst hxy;have hne:=KX x;go_wp2_with fail;go_quiet (fail);go_wp2_with fail;go_roundw
     case rel=>exact ⟨k+1,by omega,by go_num,fun j hj=>by
      rcases Nat.lt_succ_iff_lt_or_eq.1 hj with h|h
      ·exact HZ.out j h
      ·subst h;rw [HX.out,HY.out],_,rfl⟩
     case measure=>simp [intOf];omega
    ·have hne:=RZ hxy;clear hxy;go_wp2_with fail;go_quiet (fail);go_wp2_with fail;go_ret;refine ⟨false,rfl,nofun,?_⟩
     first|exact below_drewN' _ _|(rw [World.drewN_drewN];exact below_drewN' _ _)
   ·go_wp2_with fail;go_ret;refine ⟨true,rfl,fun _=>List.ext_getElem? fun j=>?_,below_drewN' _ _⟩;have h1:=HL.out;have h2:=HL2.out;by_cases hj:j<k
    ·exact HZ.out j hj
    ·rw [List.getElem?_eq_none (by omega),List.getElem?_eq_none (by omega)]
 ·have hne:((n:Int) !=(m:Int))=true:=by rw [oq];exact decide_eq_true (by omega)
  clear hnm h1 h2;go_enter Tryz.func14,Tryz.ntmps14;go_wp2_with fail;go_ret;exact ⟨false,rfl,nofun,Below.refl _ _⟩
end Go.Proofs.YtdibbemgpikgjaaGreatDoor
