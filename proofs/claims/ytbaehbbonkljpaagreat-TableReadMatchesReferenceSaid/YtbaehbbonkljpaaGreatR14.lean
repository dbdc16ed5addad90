/- The texts Na, Ja, Nb, Jb, in this order. -/
import Derived.Test.YtbaehbbonkljpaaGreatR00
import Derived.Sort.QuietTacIn
import Derived.Test.YtbaehbbonkljpaaGreatR02
import Derived.Test.YtbaehbbonkljpaaGreatR12
set_option maxRecDepth 10000
set_option maxHeartbeats 8000000
namespace Go.Proofs.YtbaehbbonkljpaaGreat
open Go Go.RowKit
theorem WX (a b:Int) (hb:0<b):(a.tmod b<0→a%b=a.tmod b+b)∧(¬a.tmod b<0→a%b=a.tmod b):=by
 have h0:=Int.emod_nonneg a (show b≠0 by omega);have h1:=Int.emod_lt_of_pos a hb;have hn:((b.natAbs:Nat):Int)=b:=Int.natAbs_of_nonneg (by omega);by_cases hc:0≤a∨b∣a
 ·have e:=Int.tmod_eq_emod (a:=a) (b:=b);rw [if_pos hc] at e;constructor<;>intro h<;>omega
 ·have e:=Int.tmod_eq_emod (a:=a) (b:=b);rw [if_neg hc,hn] at e;constructor<;>intro h<;>omega
theorem LC (a b:Int) (w:World) (hb:0<b) (hb2:b≤1000000000):
  Calls Tryz.prog 137 #[I a,I b] w fun e w'=>e= .returned (I (a%b))∧w'=w:=by
 have h0:=Int.emod_nonneg a (show b≠0 by omega);have h1:=Int.emod_lt_of_pos a hb;have hb0:b≠0:=by omega
 have hb1:b≠ -1:=by omega
 obtain ⟨e1,e2⟩:=WX a b hb;obtain ⟨q,hq⟩:∃q,a.tmod b=q:=⟨_,rfl⟩;obtain ⟨p,hp⟩:∃p,a%b=p:=⟨_,rfl⟩;rw [hq] at e1 e2;rw [hp] at e1 e2 h0 h1 ⊢;by_cases hs:q<0
 ·have e3:=e1 hs;have hw:IntKind.i64.wrap (q+b)=q+b:=by rw [IntKind.wrap_i64];omega
  subst e3;clear e1 e2 hp;go_enter Tryz.func137,Tryz.ntmps137
  go_wp2
  go_ret;exact ⟨rfl,rfl⟩
 ·have e3:=e2 hs;subst e3;clear e1 e2 hp;go_enter Tryz.func137,Tryz.ntmps137
  go_wp2
  go_ret;exact ⟨rfl,rfl⟩
theorem Lu (a b:Int) (w:World) (hb:0<b) (hb2:b≤1000000000):
  Calls Tryz.prog 130 #[I a,I b] w fun e w'=>e= .returned (.tuple #[I (a%b),I 0])∧w'=w:=by
 have hb1:¬b<1:=by omega
 have HM:=ae (LC a b w hb hb2);go_enter Tryz.func130,Tryz.ntmps130;go_wp2_with fail;refine HM.out.mono ?_;rintro e w1 ⟨rfl,rfl⟩;go_wp2_with fail;go_ret2;exact ⟨rfl,rfl⟩
theorem Ap (a b:Int) (w:World) (hb:0<b) (hb2:b≤1000000000):
  Calls Tryz.prog 117 #[I a,I b] w fun e w'=>e= .returned (I (a%b))∧w'=w:=by
 have HM:=ae (Lu a b w hb hb2);go_enter Tryz.func117,Tryz.ntmps117;go_wp2_with fail;refine HM.out.mono ?_;rintro e w1 ⟨rfl,rfl⟩;go_wp2_with fail;go_ret;exact ⟨rfl,rfl⟩
theorem yD (a:Int) (w:World):
  Calls Tryz.prog 109 #[I a] w fun e w'=>e= .returned (I (a%7))∧w'=w:=by
 have HM:=ae (Ap a 7 w (by omega) (by omega));go_enter Tryz.func109,Tryz.ntmps109;go_wp2_with fail;refine HM.out.mono ?_;rintro e w1 ⟨rfl,rfl⟩;go_wp2_with fail;go_ret;exact ⟨rfl,rfl⟩
def ZK (ts:List Lr):Type:= {x:Nat×Lr // ts[x.1]? =some x.2}
def RU (ts:List Lr) (m:Nat):List (ZK ts):=if h:m<ts.length then [⟨(m,ts[m]),bZ h⟩] else []
def Ib (ts:List Lr):Nat→List (ZK ts)
 |0=> []
 |k+1=>Ib ts k++RU ts (ts.length - 1 - k)
theorem Ic (ts:List Lr) (k m:Nat) (x:Lr) (hx:ts[m]? =some x) (hm:m=ts.length - 1 - k):Ib ts (k+1)=Ib ts k++ [⟨(m,x),hx⟩]:=by
 subst hm;obtain ⟨h1,h2⟩:=iT.1 hx;subst h2;show Ib ts k++RU ts (ts.length - 1 - k)=_;unfold RU;rw [dif_pos h1]
theorem KA (ts:List Lr) (k:Nat) (hk:k≤ts.length):(Ib ts k).length=k:=by
 induction k with
 |zero=>rfl
 |succ k ih=>
  show (Ib ts k++RU ts (ts.length - 1 - k)).length=k+1;unfold RU;rw [bH,ih (by omega),dif_pos (by omega)];rfl
def Rj (w:World) (b off:Nat) (ts:List Lr):Prop:=∀j x,ts[j]? =some x→w.rangeAt b (off+j*3) x.cells∧x.cells.length=3
theorem O1 (F:Fence) (n:Nat) (h7:F.fn 139) (hro:F.round=none) (hn:1≤n) (l Bs n₀ b off cap:Nat) (bs:List Lr) (hreach:bs.length≤100000) (hb:b<n₀) (J Jx:List (ZK bs)→World→Prop)
  (hY:∀pre x W,J pre W→pre.length<bs.length→YieldAt F (n - 1) Tryz.prog l #[.int .i64 (x.1.1:Int), .agg x.1.2.cells.toArray] W fun e W'=>
   (e= .returned (.bool true)∧J (pre++ [x]) W'∧BK n₀ Bs W W')∨(e= .returned (.bool false)∧Jx (pre++ [x]) W'))
  (W:World) (hBs:W.cell? ⟨Bs,0,none⟩=some (.slice (some ⟨b,off,none⟩) bs.length cap)) (hc:Rj W b off bs) (h0:J [] W):
  CallsIn F n Tryz.prog 139 #[.func (.yield l) #[] #[], .pointer (some ⟨Bs,0,none⟩)] W fun e W'=>(∃v,e= .returned v)∧
   ((∃ys,ys=Ib bs bs.length∧J ys W')∨(∃pre,(∃k,k≤bs.length∧pre=Ib bs k)∧Jx pre W')):=by
 refine callsIn_of_wp Tryz.func139 rfl h7 ?_ hro;simp only [Tryz.ntmps139,List.size_toArray,List.length_cons,List.length_nil,Nat.reduceAdd,Nat.reduceSub,Array.replicate_succ,Array.replicate_zero,List.push_toArray,List.append_toArray,List.nil_append,List.cons_append]
 gi_wp2
 gi_loopw [3] (fun i wr=>∃k:Nat,k≤bs.length∧i= .int .i64 ((bs.length:Int) - 1 - k)∧J (Ib bs k) wr∧BK n₀ Bs W wr)
  (fun i _=>((intOf i)+1).toNat)
 case atStart=>exact ⟨0,Nat.zero_le _,by go_num,h0,BK.refl _ _ _⟩
 case round=>
  obtain ⟨k,hk,rfl,hJs,hnx⟩:=hrel;by_cases hlt:k<bs.length
  ·obtain ⟨m,hm⟩:∃m:Nat,m=bs.length - 1 - k:=⟨_,rfl⟩;have SQ:(bs.length:Int) - 1 - k=(m:Int):=by omega
   have hml:m<bs.length:=by omega
   obtain ⟨x,hxx⟩:∃x,bs[m]? =some x:=⟨_,bZ hml⟩;have hcx:wr.rangeAt b (off+m*3) x.cells∧x.cells.length=3:=⟨aU (hc m x hxx).1 hnx.lo hb,(hc m x hxx).2⟩;obtain ⟨hcx,hc3⟩:=hcx;have Nh:=ae hcx;have H3:Hid ((Tryz.prog.info? 131).map (·.size)=some x.cells.length):=ae (by rw [hc3];kernel_rfl);have hbx:wr.cell? ⟨Bs,0,none⟩=some (.slice (some ⟨b,off,none⟩) bs.length cap):=hnx.box.trans hBs;obtain ⟨fn,tmps,assign,body,hy,hR⟩:=hY _ ⟨(m,x),hxx⟩ wr hJs (by rw [KA _ _ hk];exact hlt);dsimp only at hy;rw [SQ];have HM:=ae hm;have VY:=ae SQ;have HX:Hid (Ib bs (k+1)=Ib bs k++ [⟨(m,x),hxx⟩]):=ae (Ic bs k m x hxx hm);clear hm SQ hcx hc3
   gi_wp2_with (with_reducible refine E8 131 ?_;refine mX rfl _ _ rfl b (off+m*3) rfl x.cells _ Nh.out Tryz.underlying131 rfl H3.out ?_)
   refine hR.mono ?_;rintro e W3 (⟨rfl,hJ3,hk3⟩|⟨rfl,hJx3⟩)
   ·gi_wp2
    go_roundw
    case rel=>exact ⟨k+1,by omega,by have:=VY.out;congr 1;omega,by rw [HX.out];exact hJ3,hnx.trans hk3⟩
    case measure=>simp [intOf]
   ·gi_wp2
    refine bodyPost_ret (results_none rfl _ _ _) rfl ?_;exact ⟨⟨_,rfl⟩, .inr ⟨_,⟨k+1,by omega,by rw [HX.out]⟩,hJx3⟩⟩
  ·have hke:k=bs.length:=by omega
   have VX:=ae hke;clear hke
   gi_wp2
   go_end0
   exact ⟨⟨_,rfl⟩, .inl ⟨_,by rw [VX.out],hJs⟩⟩
theorem CZ (F:Fence) (n:Nat) (h7:F.fn 139) (hro:F.round=none) (l Bs:Nat) (A:Option Addr) (c:Nat) {α:Type} (J:List α→World→Prop) (W:World) (hBs:W.cell? ⟨Bs,0,none⟩=some (.slice A 0 c)) (h0:J [] W):
  CallsIn F n Tryz.prog 139 #[.func (.yield l) #[] #[], .pointer (some ⟨Bs,0,none⟩)] W fun e W'=>(∃v,e= .returned v)∧J [] W':=by
 refine callsIn_of_wp Tryz.func139 rfl h7 ?_ hro;simp only [Tryz.ntmps139,List.size_toArray,List.length_cons,List.length_nil,Nat.reduceAdd,Nat.reduceSub,Array.replicate_succ,Array.replicate_zero,List.push_toArray,List.append_toArray,List.nil_append,List.cons_append]
 gi_wp2
 gi_loopw [3] (fun i wr=>i= .int .i64 (-1)∧J [] wr) (fun _ _=>0)
 case atStart=>exact ⟨rfl,h0⟩
 case round=>
  obtain ⟨rfl,hJs⟩:=hrel
  gi_wp2
  go_end0
  exact ⟨⟨_,rfl⟩,hJs⟩
theorem Ry (F:Fence) (n:Nat) (h5:F.fn 136) (hro:F.round=none) (a:Option Addr) (len cap:Nat) (w:World):
  CallsIn F n Tryz.prog 136 #[.slice a len cap] w fun e w'=>e= .returned (.func (.func 139) #[] #[.pointer (some ⟨w.heap.size,0,none⟩)])∧w'=w.alloc (.cells #[.slice a len cap] 48):=by
 refine callsIn_of_wp Tryz.func136 rfl h5 ?_ hro;simp only [Tryz.ntmps136,List.size_toArray,List.length_cons,List.length_nil,Nat.reduceAdd,Nat.reduceSub,Array.replicate_succ,Array.replicate_zero,List.push_toArray,List.append_toArray,List.nil_append,List.cons_append]
 gi_wp2
 go_ret;exact ⟨rfl,rfl⟩
theorem Hz (F:Fence) (n:Nat) (h7:F.fn 139) (hro:F.round=none) (hn:1≤n) (Bs n₀:Nat) (A:Option Addr) (cap:Nat) (bs:List Lr) (hreach:bs.length≤100000) (w:World) (hBs:Bs<w.heap.size) (hn₀:n₀≤w.heap.size)
  (hc:w.cell? ⟨Bs,0,none⟩=some (.slice A bs.length cap)) (hI:bs.length=0∨∃b off,A=some ⟨b,off,none⟩∧b<n₀∧Rj w b off bs):
  SeqStopsK F n Tryz.prog 139 #[.pointer (some ⟨Bs,0,none⟩)] (fun x:ZK bs=> #[Value.int .i64 (x.1.1:Int), .agg x.1.2.cells.toArray]) (BK n₀ Bs) (fun ys=>ys=Ib bs bs.length)
   (fun pre=>∃k,k≤bs.length∧pre=Ib bs k) bs.length w:=fun l J Jx W hW _ _ hY h0=>by
 have hc':=(hW.cell (p:=⟨Bs,0,none⟩) hBs).trans hc;rcases hI with h|⟨b,off,rfl,hb,hcs0⟩
 ·rw [h] at hc';exact (CZ F n h7 hro l Bs A cap J W hc' h0).mono fun e W' ⟨he,hj⟩=>⟨he, .inl ⟨_,by rw [h];rfl,hj⟩⟩
 ·exact O1 F n h7 hro hn l Bs n₀ b off cap bs hreach hb J Jx hY W hc' (fun j x hx=>⟨aU (hcs0 j x hx).1 (hW.mono hn₀) hb,(hcs0 j x hx).2⟩) h0
def jO:List Lr→Nat→Option Nat
 | [],y=>some y
 |r::rs,y=>if r.every<1∨400<r.every∨r.rest<0∨r.every≤r.rest then none else if 400<Nat.lcm y r.every.toNat then none else jO rs (Nat.lcm y r.every.toNat)
def XI:Option Nat→Value
 |none=> .tuple #[I 0, .bool false]
 |some y=> .tuple #[I (y:Int), .bool true]
theorem NY:∀(rs:List Lr) (y N:Nat),1≤y→y≤400→jO rs y=some N→1≤N∧N≤400
 | [],y,N,h1,h2,h=>by
  injection h with h;omega
 |r::rs,y,N,h1,h2,h=>by
  unfold jO at h;split at h
  ·cases h
  ·rename_i hb;split at h
   ·cases h
   ·rename_i hl;refine NY rs _ N (Nat.lcm_pos (by omega) (by omega)) (by omega) h
theorem IP (rs:List Lr) (R:Option Addr) (r n:Nat) (w:World) (h:az w w.heap.size R (rs.flatMap Lr.cells)) (hn:rs.length=n) (hn2:n≤100000):Calls Tryz.prog 89 #[.slice R n r] w (Gives (XI (jO rs 1)) w):=by
 have HN:=ae hn;have HC:=ae h;have EG:Hid ((rs.flatMap Lr.cells).length=n*3):=ae (by rw [cu (s:=3) Lr.cells rs (fun _ _=>rfl),hn]);clear h hn;go_enter Tryz.func89,Tryz.ntmps89;go_wp2_with fail
 go_loopw [4,11] (fun y i wr=>∃k Y:Nat,k≤n∧y=I (Y:Int)∧i=I (k:Int)∧1≤Y∧Y≤400∧jO rs 1=jO (rs.drop k) Y∧Below w.heap.size w wr) (fun _ i _=>n - (intOf i).toNat)
 case atStart=>exact ⟨0,1,Nat.zero_le _,rfl,rfl,by omega,by omega,rfl,Below.refl _ _⟩
 case round=>
  obtain ⟨k,Y,hk,rfl,rfl,hy1,hy2,hp,hb⟩:=hrel;have HB:=ae hb;have HP:=ae hp;clear hb hp;by_cases hlt:k<n
  ·obtain ⟨x,hx⟩:∃x,rs[k]? =some x:=⟨_,bZ (by rw [HN.out];exact hlt)⟩;obtain ⟨b,off,rfl,hbl,hcl⟩:=HC.out.there (by rw [EG.out];omega);have hr:=aU (az.elem (s:=3) (f:=Lr.cells) (fun _ _=>rfl) hcl k x hx) HB.out hbl;have hd:rs.drop k=x::rs.drop (k+1):=by
    rw [List.drop_eq_getElem_cons (by rw [HN.out];exact hlt)];rw [bZ (by rw [HN.out];exact hlt)] at hx;injection hx with hx;rw [hx]
   rw [hd] at HP;obtain ⟨ev,re,ye⟩:=x;have f0:wr.cell? ⟨b,off+k*3,none⟩=some (I ev):=hr 0 _ rfl;have f1:wr.cell? ⟨b,off+k*3+1,none⟩=some (I re):=hr 1 _ rfl;have f2:wr.cell? ⟨b,off+k*3+2,none⟩=some (.bool ye):=hr 2 _ rfl;have i0:(0:Int)≤(k:Int):=by omega
   have i1:(k:Int)<(n:Int):=by omega
   have hne:¬b=wr.heap.size:=by have:=HB.out.size;omega
   have HB2:=ae (ai HB.out (ag wr (.cells #[I ev,I re, .bool ye] 131)));by_cases hbad:ev<1∨400<ev∨re<0∨ev≤re
   ·have hF:jO rs 1=none:=by rw [HP.out];unfold jO;rw [if_pos hbad]
    have HF:=ae hF;have hb4:ev<1∨(¬ev<1∧400<ev)∨(¬ev<1∧¬400<ev∧re<0)∨(¬ev<1∧¬400<ev∧¬re<0∧ev≤re):=by omega
    clear hbad hd hr hcl hx hF;rcases hb4 with g1|⟨g1,g2⟩|⟨g1,g2,g3⟩|⟨g1,g2,g3,g4⟩
    all_goals
     go_wp2_with fail;go_ret2;exact ⟨by rw [HF.out];rfl,HB2.out⟩
   ·have g1:¬ev<1:=fun h=>hbad (.inl h);have g2:¬400<ev:=fun h=>hbad (.inr (.inl h));have g3:¬re<0:=fun h=>hbad (.inr (.inr (.inl h)));have g4:¬ev≤re:=fun h=>hbad (.inr (.inr (.inr h)));obtain ⟨E,rfl⟩:∃E:Nat,ev=(E:Int):=⟨ev.toNat,by omega⟩;have HLC:=ae (fun W=>Xp Y E hy1 hy2 (by omega) (by omega) W);obtain ⟨L,hL⟩:∃L,Nat.lcm Y E=L:=⟨_,rfl⟩;have hL1:1≤L:=by rw [←hL];exact Nat.lcm_pos (by omega) (by omega)
    have hP2:jO rs 1=if 400<L then none else jO (rs.drop (k+1)) L:=by
     rw [HP.out];show (if _ then _ else _)=_;rw [if_neg hbad,Int.toNat_natCast,hL]
    have HP2:=ae hP2;rw [hL] at HLC;clear hbad hd hr hcl hx hP2 hL HP;go_upto_region 8 with fail;refine (HLC.out _).mono ?_;rintro e w5 ⟨rfl,hb5⟩;have rV:=ae (ai HB2.out hb5);clear hb5 HB2 HLC f0 f1 f2;by_cases hL4:400<L
    ·have hl:(400:Int)<(L:Int):=by omega
     have HF:Hid (jO rs 1=none):=ae (by rw [HP2.out,if_pos hL4]);go_wp2_with fail;go_ret2;exact ⟨by rw [HF.out];rfl,rV.out⟩
    ·have hl:¬(400:Int)<(L:Int):=by omega
     have HF:Hid (jO rs 1=jO (rs.drop (k+1)) L):=ae (by rw [HP2.out,if_neg hL4]);go_wp2_with fail;go_roundw
     case rel=>exact ⟨k+1,L,by omega,rfl,by go_num,hL1,by omega,HF.out,rV.out⟩
     case measure=>simp [intOf];omega
  ·have hkn:k=n:=by omega
   have hlt':¬(k:Int)<(n:Int):=by omega
   have HF:Hid (jO rs 1=some Y):=ae (by rw [HP.out,List.drop_of_length_le (by rw [HN.out];omega)];rfl);clear hlt hkn;go_wp2_with fail;go_ret2;exact ⟨by rw [HF.out];rfl,HB.out⟩
structure eH (c:Cal):Prop where
 ep:0≤c.aJ∧c.aJ≤1048576
 ml:1≤c.aj.length∧c.aj.length≤16
 lp: -1≤c.aY∧c.aY<(c.aj.length:Int)
 rl:c.rules.length≤16
 nl:c.aY= -1→c.rules.length=0
 mo:∀m∈c.aj,1≤m∧m≤40
 per:(jO c.rules 1).isSome=true
def vC (c:Cal):Bool:=decide (0≤c.aJ∧c.aJ≤1048576)&&(decide (1≤c.aj.length∧c.aj.length≤16)&&(decide (-1≤c.aY∧c.aY<(c.aj.length:Int))&&(decide (c.rules.length≤16)&&(decide (c.aY= -1→c.rules.length=0)&&(c.aj.all (fun m=>decide (1≤m∧m≤40))&&(jO c.rules 1).isSome)))))
theorem BJ (c:Cal):vC c=true↔eH c:=by
 unfold vC;simp only [Bool.and_eq_true,decide_eq_true_eq,List.all_eq_true];exact ⟨fun ⟨h1,h2,h3,h4,h5,h6,h7⟩=>⟨h1,h2,h3,h4,h5,h6,h7⟩,fun ⟨h1,h2,h3,h4,h5,h6,h7⟩=>⟨h1,h2,h3,h4,h5,h6,h7⟩⟩
theorem oG {c:Cal} (h:eH c):vC c=true:=(BJ c).2 h
theorem BL {c:Cal} (h:¬eH c):vC c=false:=by
 cases e:vC c with
 |false=>rfl
 |true=>exact absurd ((BJ c).1 e) h
theorem nJ (c:Cal) (A R:Option Addr) (a r:Nat) (w:World) (h:nD w w.heap.size A R c):Calls Tryz.prog 74 #[.agg (aH c A a R r)] w (Gives (.bool (vC c)) w):=by
 obtain ⟨nr,hnr⟩:∃n,c.rules.length=n:=⟨_,rfl⟩;obtain ⟨n,hn⟩:∃n,c.aj.length=n:=⟨_,rfl⟩;have Ha:=ae (fun (h16:nr≤16) (W:World) (hb:Below w.heap.size w W)=>IP c.rules R r nr W ((h.rules.keep hb).more hb.size) hnr (by omega));have e0:aH c A a R r= #[I c.aJ, .slice A n a,I c.aY, .slice R nr r]:=by rw [←hn,←hnr];rfl
 rw [e0];have HV:=ae (jw.start w #[I c.aJ, .slice A n a,I c.aY, .slice R nr r] 50);obtain ⟨lp,hlp⟩:∃l,c.aY=l:=⟨_,rfl⟩;obtain ⟨ep,lL⟩:∃l,c.aJ=l:=⟨_,rfl⟩;rw [hlp,lL] at HV ⊢;have HM:=ae h.aj;have uB:=ae (show c.aj.length=n∧c.rules.length=nr∧c.aY=lp∧c.aJ=ep from ⟨hn,hnr,hlp,lL⟩);by_cases hbad:ep<0∨1048576<ep∨n<1∨16<n∨lp< -1∨(n:Int)≤lp∨16<nr∨(lp= -1∧0<nr)
 ·have HF:Hid (vC c=false):=ae (BL fun hg=>by
   have h1:=hg.ep;have h2:=hg.ml;have h3:=hg.lp;have h4:=hg.rl;have h5:=hg.nl;omega)
  have hb4:ep<0∨(¬ep<0∧1048576<ep)∨(¬ep<0∧¬1048576<ep∧(n:Int)<1)∨(¬ep<0∧¬1048576<ep∧¬(n:Int)<1∧(16:Int)<(n:Int))∨(¬ep<0∧¬1048576<ep∧¬(n:Int)<1∧¬(16:Int)<(n:Int)∧lp< -1)∨(¬ep<0∧¬1048576<ep∧¬(n:Int)<1∧¬(16:Int)<(n:Int)∧¬lp< -1∧(n:Int)≤lp)∨(¬ep<0∧¬1048576<ep∧¬(n:Int)<1∧¬(16:Int)<(n:Int)∧¬lp< -1∧¬(n:Int)≤lp∧(16:Int)<(nr:Int))∨(¬ep<0∧¬1048576<ep∧¬(n:Int)<1∧¬(16:Int)<(n:Int)∧¬lp< -1∧¬(n:Int)≤lp∧¬(16:Int)<(nr:Int)∧lp= -1∧(0:Int)<(nr:Int)):=by omega
  clear hbad h hnr hn hlp lL e0 Ha HM;rcases hb4 with g1|⟨g1,g2⟩|⟨g1,g2,g3⟩|⟨g1,g2,g3,g4⟩|⟨g1,g2,g3,g4,g5⟩|⟨g1,g2,g3,g4,g5,g6⟩|⟨g1,g2,g3,g4,g5,g6,g7⟩|⟨g1,g2,g3,g4,g5,g6,g7,g8,g9⟩
  all_goals
   try subst g8
   go_enter Tryz.func74,Tryz.ntmps74;go_wp2_with fail;go_ret;exact ⟨by rw [HF.out];rfl,HV.out.up⟩
 ·have g1:¬ep<0:=fun h=>hbad (.inl h);have g2:¬1048576<ep:=fun h=>hbad (.inr (.inl h));have g3:¬(n:Int)<1:=by omega
  have g4:¬(16:Int)<(n:Int):=by omega
  have g5:¬lp< -1:=by omega
  have g6:¬(n:Int)≤lp:=by omega
  have g7:¬(16:Int)<(nr:Int):=by omega
  have hnb:Hid (nr≤16∧1≤n∧n≤16):=ae (by omega);have hsp:((lp== -1)=true∧¬(0:Int)<(nr:Int))∨(lp== -1)=false:=by
   by_cases h:lp= -1
   ·exact .inl ⟨by simp [h],by omega⟩
   ·exact .inr (by simpa using h)
  have HPR:=ae (Ha.out (by omega));have Z9:Hid (0≤ep∧ep≤1048576∧1≤n∧n≤16∧ -1≤lp∧lp<(n:Int)∧nr≤16∧(lp= -1→nr=0)):=ae (by omega);clear hbad h hnr hn hlp lL e0 Ha;rcases hsp with ⟨t0,g9⟩|t0
  all_goals
   go_enter Tryz.func74,Tryz.ntmps74;go_wp2_with fail
   go_loopw [52] (fun i wr=>∃k:Nat,k≤n∧i=I (k:Int)∧(∀m∈c.aj.take k,1≤m∧m≤40)∧(Row wr w.heap.size #[I ep, .slice A n a,I lp, .slice R nr r]∧Below w.heap.size w wr)) (fun i _=>n - (intOf i).toNat)
   case atStart=>exact ⟨0,Nat.zero_le _,rfl,(fun _ h=>nomatch h),HV.out.row,HV.out.up⟩
   case round=>
    obtain ⟨k,hk,rfl,hall,hrow,hb⟩:=hrel;have HB:=ae hb;have Vh:=ae hall;have HRW:=ae hrow;clear hb hall hrow HV;by_cases hlt:k<n
    ·have i0:(0:Int)≤(k:Int):=by omega
     have i1:(k:Int)<(n:Int):=by omega
     obtain ⟨x,hx⟩:∃x,c.aj[k]? =some x:=⟨_,bZ (by rw [uB.out.1];exact hlt)⟩;obtain ⟨b,off,rfl,hbl,hcl⟩:=HM.out.there (by rw [List.length_map,uB.out.1];omega);have f0:wr.cell? ⟨b,off+k,none⟩=some (I x):=(HB.out.cell (p:=⟨b,off+k,none⟩) hbl).trans (hcl k _ (by rw [List.getElem?_map,hx];rfl));have HX:=ae hx;clear hx hcl;by_cases hxb:x<1∨40<x
     ·have HF:Hid (vC c=false):=ae (BL fun hg=>by
       have h1:=hg.mo x (gU HX.out);omega)
      have hx4:x<1∨(¬x<1∧40<x):=by omega
      clear hxb;rcases hx4 with q1|⟨q1,q2⟩
      all_goals
       go_wp2_with fail;go_ret;exact ⟨by rw [HF.out];rfl,HB.out⟩
     ·have q1:¬x<1:=fun h=>hxb (.inl h);have q2:¬40<x:=fun h=>hxb (.inr h);have HN:Hid (∀m∈c.aj.take (k+1),1≤m∧m≤40):=ae (by
       rw [jR c.aj k x HX.out];intro m hm;rcases List.mem_append.1 hm with h1|h1
       ·exact Vh.out m h1
       ·rw [List.mem_singleton.1 h1];omega)
      clear hxb;go_wp2_with fail;go_roundw
      case rel=>exact ⟨k+1,by omega,by have h16:=hnb.out;go_num,HN.out,HRW.out,HB.out⟩
      case measure=>simp [intOf];have h16:=hnb.out;omega
    ·have hkn:k=n:=by omega
     have hlt':¬(k:Int)<(n:Int):=by omega
     have HAM:Hid (∀m∈c.aj,1≤m∧m≤40):=ae (by
      have h:=Vh.out
      rwa [List.take_of_length_le (by rw [uB.out.1];omega)] at h)
     have v3:=HRW.out.2 3;clear hlt hkn;go_wp2_with fail;refine (HPR.out wr HB.out).mono ?_;rintro e w1 ⟨rfl,hb1⟩;have HB1:=ae (ai HB.out hb1);clear hb1 HPR;obtain ⟨p,hp⟩:∃p,jO c.rules 1=p:=⟨_,rfl⟩;have rf:=ae hp;rw [hp];clear hp;cases p with
     |none=>
      have HF:Hid (vC c=false):=ae (BL fun hg=>by
       have h1:=hg.per;rw [rf.out] at h1;cases h1)
      unfold XI;go_wp2_with fail;go_ret;exact ⟨by rw [HF.out];rfl,HB1.out⟩
     |some y=>
      have HF:Hid (vC c=true):=ae (oG (by
       have h1:=Z9.out;have h2:=uB.out;exact ⟨by omega,by omega,by omega,by omega,fun h=>by omega,HAM.out,by rw [rf.out];rfl⟩))
      unfold XI;go_wp2_with fail;go_ret;exact ⟨by rw [HF.out];rfl,HB1.out⟩
section
variable {F:Fence} {n:Nat} {P:Program} {ops:Array Oper} {Q:Exit→Act→World→Prop} {md:Region.Mode}
theorem uS (l0:Nat) (hd:∀(i:Nat) (o:Oper),ops[i]? =some o→∀c,o.op≠ .defer c):∀(fuel:Nat) (listed:Array Bool) (a:Act) (w:World),wpAnyIn F n P md ops Q fuel listed a w→wpAnyIn (F.inRound l0) n P md ops Q fuel listed a w:=by
 intro fuel
 induction fuel with
 |zero=>intro listed a w h;exact h
 |succ fuel ih=>
  intro listed a w h;refine ⟨h.1,fun i hi=>?_⟩;have h2:=wpOpIn_mono (fun a w=>ih _ a w) (h.2 i hi);unfold wpOpIn at h2 ⊢;cases ho:ops[i]? with
  |none=>rw [ho] at h2;exact h2
  |some o=>
   rw [ho] at h2;simp only at h2 ⊢;split
   ·rename_i hw;rw [if_pos hw] at h2;unfold Oper.wpIn at h2 ⊢;rw [Oper.semAt_eq _ _ _ (hd i o ho)] at h2 ⊢;exact h2
   ·rename_i hw;rw [if_neg hw] at h2;exact h2
theorem qp {l0 id:Nat} {a:Act} {w:World} {l:List Oper} (hd:(l.all fun o=>match o.op with| .defer _=>false|_=>true)=true) (hm:P.follows .mixedOrders=true) (hB:Region.lexB .any l.toArray=true)
  (h:wpQuietIn Fence.wide n P l.toArray (fun w'=>∃n,w'=w.drewN n) (fun a'=>∀w',(∃n,w'=w.drewN n)→Q .normal a' w') l a):(Code.region id l.toArray true).wpIn (Fence.wide.inRound l0) n P Q a w:=by
 simp only [Region.lexB,Bool.and_eq_true] at hB;refine wpIn_region_any hm (uS l0 (fun i o ho c hc=>?_) _ _ _ _ (wpAnyIn_of_quiet (C:=fun w'=>∃n,w'=w.drewN n) (Q:=fun a'=>∀w',(∃n,w'=w.drewN n)→Q .normal a' w') rfl (fun _ w' hw' h=>h w' hw') _ _ _ _ ⟨1,rfl⟩ ?_))
 ·have hm2:o∈l:=by
   rw [List.getElem?_toArray] at ho;exact gU ho
  have h3:=List.all_eq_true.1 hd o hm2;rw [hc] at h3;cases h3
 ·have:=wpAnyQIn_lex (F:=Fence.wide) (n:=n) (C:=fun w'=>∃n,w'=w.drewN n) (md:= .any) hB.1 l.toArray.toList 0 (Array.replicate l.toArray.size false) a (by simp) (by simpa using hB.2) (by simpa using h);simpa using this
end
theorem uQ {P:Program} {fn:Func} {p:Tmp} {ty:TypeId} (h:fn.results= #[.cell p ty]) (tmps:Array Value) (w:World) (g:Nat) (t:TypeId) (v:Value) (hp:tmps.getD p undef= .pointer (some ⟨g,0,none⟩)) (hg:w.heap[g]? =some (.cells #[v] t (0,0))) (hu:P.underlying ty=some .bool):(results fn tmps).run P w= .ok v w:=by
 have hp':tmps[p]?.getD undef= .pointer (some ⟨g,0,none⟩):=by simpa using hp
 have hc:w.cell? ⟨g,0,none⟩=some v:=cell_of_row w g 0 _ _ _ hg;have ha:(isAgg ty).run P w= .ok false w:=by simp [isAgg,underlying,go_sem,hu]
 simp [results,h,hp',asAddr,loadVar,go_sem,ha,hc]
theorem foldl2 (t:Array Value) (p q:Tmp) (u v:Value):(#[p,q].zip #[u,v]).foldl (fun t (x:Tmp×Value)=>t.setIfInBounds x.1 x.2) t=(t.setIfInBounds p u).setIfInBounds q v:=by simp
def jK (c:Cal) (A:Option Addr) (a:Nat) (R:Option Addr) (r:Nat) (S:Value):Array Value:= #[I c.aJ, .slice A c.aj.length a,I c.aY, .slice R c.rules.length r,S]
structure EL (w:World) (y:Int) (b:Bool) (W:World):Prop where
 yr:W.heap[w.heap.size+1]? =some (.cells #[I y] 3 (0,0))
 res:W.heap[w.heap.size+2]? =some (.cells #[.bool b] 4 (0,0))
 up:Below w.heap.size w W
theorem EL.grow {w W W':World} {y:Int} {b:Bool} (h:EL w y b W) (hb:Below W.heap.size W W'):EL w y b W':=
 ⟨(hb.block _ (bK.1 h.yr).1).trans h.yr,(hb.block _ (bK.1 h.res).1).trans h.res,ai h.up hb⟩
theorem EL.sz {w W:World} {y:Int} {b:Bool} (h:EL w y b W):w.heap.size+2<W.heap.size:=(bK.1 h.res).1
theorem EL.start (w:World) (y:Int) (cs:Array Value) (t:TypeId):EL w y false (((w.alloc (.cells cs t)).alloc (.cells #[I y] 3)).alloc (.cells #[.bool false] 4)):=by
 have h1:=heap_alloc_last (w.alloc (.cells cs t)) (.cells #[I y] 3);have h2:=heap_alloc_last ((w.alloc (.cells cs t)).alloc (.cells #[I y] 3)) (.cells #[.bool false] 4);rw [World.size_alloc] at h1;rw [World.size_alloc,World.size_alloc] at h2;exact ⟨(Below.heap_alloc _ _ _ (by simp)).trans h1,h2,(((Below.refl _ w).alloc (Nat.le_refl _) _).alloc (by simp) _).alloc (by simp;omega) _⟩
theorem EL.set {w W:World} {y:Int} {b:Bool} (h:EL w y b W) (v:Bool):EL w y v (W.setCell ⟨w.heap.size+2,0,none⟩ (.bool v)):=by
 refine ⟨(heap_setCell_other W _ _ _ (by show w.heap.size+1≠w.heap.size+2;omega)).trans h.yr,?_,h.up.setCell (p:=⟨w.heap.size+2,0,none⟩) (by show w.heap.size≤w.heap.size+2;omega) _⟩;rw [heap_setCell_same W _ 0 _ _ _ h.res];rfl
theorem NQ {w X Y:World} {y:Int} {b:Bool} {B:Nat} {row:Option Nat} (hB:w.heap.size≤B) (hs:EL w y b X) (hg:X.grownBy Y row) (hr:∀r,row=some r→B≤r∧∃o:Obj,X.heap[r]? =some o∧o.isCells=false):EL w y b Y:=by
 have key:∀k cs t,X.heap[k]? =some (Obj.cells cs t (0,0))→Y.heap[k]? =X.heap[k]? :=fun k cs t hk=>
  hg.block k (bK.1 hk).1 fun e=>by
   obtain ⟨_,o,ho,hc⟩:=hr k e.symm;rw [hk] at ho;cases ho;cases hc
 exact ⟨(key _ _ _ hs.yr).trans hs.yr,(key _ _ _ hs.res).trans hs.res,hs.up.grown hg hs.up.size (fun k e=>Nat.le_trans hB (hr k e).1)⟩
theorem lp_own {w:World} {y:Int} {B:Nat} (hB:w.heap.size≤B) {β:Type} (f:β→Prop):OwnFrom B (fun s W=>EL w y false W∧w.heap.size+3<W.heap.size∧f s):=fun _ _ _ _ hs hg hr=>⟨NQ hB hs.1 hg hr,dW hs.2.1 hg.size,hs.2.2⟩
def yf (rs : List Lr) (y : Int) : Bool := match rs.reverse.find? (fun r => y % r.every == r.rest) with
  | some r => r.yes
  | none => false
theorem qj : ∀ (rs : List Lr) (y : Nat), (jO rs y).isSome = true → ∀ r ∈ rs, (1 ≤ r.every ∧ r.every ≤ 400) ∧ 0 ≤ r.rest ∧ r.rest < r.every
  | [], _, _, _, h => nomatch h
  | x :: rs, y, h, r, hr => by
    unfold jO at h
    split at h
    · cases h
    · rename_i hb
      split at h
      · cases h
      · rcases List.mem_cons.1 hr with e | h1
        · rw [e]
          omega
        · exact qj rs _ h r h1
theorem Ny (rs : List Lr) (k : Nat) (hk : k ≤ rs.length) : (Ib rs k).map (·.1.2) = rs.reverse.take k := by
  induction k with
  | zero => rfl
  | succ k ih =>
    have h1 : rs.length - 1 - k < rs.length := by omega
    rw [Ic rs k (rs.length - 1 - k) rs[rs.length - 1 - k] (bZ h1) rfl, List.map_append, ih (by omega)]
    rw [jR rs.reverse k rs[rs.length - 1 - k] (by rw [List.getElem?_reverse (by omega), bZ h1])]
    rfl
theorem lpG_no {rs : List Lr} {y : Int} (h : ∀ x ∈ Ib rs rs.length, (y % x.1.2.every == x.1.2.rest) = false) : yf rs y = false := by
  have h1 : rs.reverse.find? (fun r => y % r.every == r.rest) = none := by
    rw [List.find?_eq_none]
    intro r hr
    have h2 : r ∈ (Ib rs rs.length).map (·.1.2) := by
      rw [Ny rs _ (Nat.le_refl _), List.take_of_length_le (by simp)]
      exact hr
    obtain ⟨x, hx, e⟩ := List.mem_map.1 h2
    rw [← e, h x hx]
    simp
  unfold yf
  rw [h1]
theorem Xt {rs : List Lr} {y : Int} {k : Nat} {p : List (ZK rs)} {x : ZK rs} (hk : k ≤ rs.length) (e : p ++ [x] = Ib rs k) (h : ∀ x ∈ p, (y % x.1.2.every == x.1.2.rest) = false) (hx : (y % x.1.2.every == x.1.2.rest) = true) : yf rs y = x.1.2.yes := by
  have h1 : rs.reverse.find? (fun r => y % r.every == r.rest) = some x.1.2 := by
    rw [← List.take_append_drop k rs.reverse, List.find?_append, ← Ny rs k hk, ← e, List.map_append, List.find?_append]
    have h2 : (p.map (·.1.2)).find? (fun r => y % r.every == r.rest) = none := by
      rw [List.find?_eq_none]
      intro r hr
      obtain ⟨z, hz, e⟩ := List.mem_map.1 hr
      rw [← e, h z hz]
      simp
    rw [h2]
    simp only [List.map_cons, List.map_nil, List.find?_cons, hx, Option.none_or, Option.some_or]
  unfold yf
  rw [h1]
theorem Xu {w : World} {y : Int} {B : Nat} (hB : w.heap.size ≤ B) {rs : List Lr} (c : Code) : OwnFrom B (fun (pre : List (ZK rs)) W => c = .ret ∧ ∃ p x, pre = p ++ [x] ∧ (∀ z ∈ p, (y % z.1.2.every == z.1.2.rest) = false) ∧ (y % x.1.2.every == x.1.2.rest) = true ∧ EL w y x.1.2.yes W) := fun _ _ _ _ hs hg hr => by
  obtain ⟨h1, p, x, h2, h5, h3, h4⟩ := hs
  exact ⟨h1, p, x, h2, h5, h3, NQ hB h4 hg hr⟩
theorem leapG (c : Cal) (A R : Option Addr) (a r : Nat) (S : Value) (y : Int) (w : World) (hru : c.rules.length ≤ 16) (hgd : ∀ r ∈ c.rules, 1 ≤ r.every ∧ r.every ≤ 400) (h : nD w w.heap.size A R c) : Calls Tryz.prog 129 #[.agg (jK c A a R r S), I y] w (Gives (.bool (yf c.rules y)) w) := by
  refine (callsIn_wide (n := 3)).1 ?_
  have hro : Fence.wide.round = none := rfl
  have h1 : 1 ≤ 3 := by omega
  obtain ⟨ep, ms, lp, rs⟩ := c
  simp only at hru hgd
  obtain ⟨n, hn⟩ : ∃ n, rs.length = n := ⟨_, rfl⟩
  obtain ⟨mm, hmm⟩ : ∃ n, ms.length = n := ⟨_, rfl⟩
  have Z9 := ae hgd
  have HH := ae h
  have HN := ae hn
  have HV := ae (ag w (.cells #[I ep, .slice A mm a, I lp, .slice R n r, S] (204)))
  have e0 : jK ⟨ep, ms, lp, rs⟩ A a R r S = #[I ep, .slice A mm a, I lp, .slice R n r, S] := by rw [← hn, ← hmm]; rfl
  rw [e0]
  clear h hn hmm hgd e0
  refine callsIn_of_wp_marks Tryz.func129 rfl trivial ?_ hro
  simp only [Tryz.ntmps129, List.size_toArray, List.length_cons, List.length_nil, Nat.reduceAdd, Nat.reduceSub, Array.replicate_succ, Array.replicate_zero, List.push_toArray, List.append_toArray, List.nil_append, List.cons_append]
  gi_wp2_with (refine ⟨trivial, ?_⟩; gi_at_call 136; refine (Ry Fence.wide 2 trivial hro _ _ _ _).mono ?_; rintro e w' ⟨rfl, rfl⟩)
  obtain ⟨Wx, SG⟩ : ∃ Wx, ((w.alloc (.cells #[I ep, .slice A mm a, I lp, .slice R n r, S] (204))).alloc (.cells #[I y] 3)).alloc (.cells #[.bool false] 4) = Wx := ⟨_, rfl⟩
  have hV3 : EL w y false Wx := by rw [← SG]; exact EL.start _ _ _ _
  have hsz0 : Wx.heap.size = w.heap.size + 3 := by rw [← SG]; simp
  rw [SG]
  have bS := Boxed.new Wx 48 (.slice R n r)
  have hb4 := ag Wx (.cells #[.slice R n r] 48)
  obtain ⟨W0, hW0⟩ : ∃ W0, Wx.alloc (.cells #[.slice R n r] 48) = W0 := ⟨_, rfl⟩
  have hsz4 : W0.heap.size = w.heap.size + 4 := by rw [← hW0, World.size_alloc, hsz0]
  rw [hW0] at bS hb4 ⊢
  rw [hsz0] at bS hb4
  have hV4 : EL w y false W0 := hV3.grow (by rw [hsz0]; exact hb4)
  have hrul : rs.length = 0 ∨ ∃ b off, R = some ⟨b, off, none⟩ ∧ b < w.heap.size ∧ Rj W0 b off rs := by
    rcases HH.out.rules with h0 | ⟨b, off, e, hb, hc⟩
    · refine .inl ?_
      rw [cu (s := 3) Lr.cells rs (fun _ _ => rfl)] at h0
      omega
    · exact .inr ⟨b, off, e, hb, fun j x hx => ⟨aU (az.elem (s := 3) (f := Lr.cells) (fun _ _ => rfl) hc j x hx) hV4.up hb, rfl⟩⟩
  have hst := Hz Fence.wide (3 - 1) trivial hro (by omega) (w.heap.size + 3) w.heap.size R r rs (by omega) W0 (by omega) (by omega) (by rw [HN.out]; exact bS.cell) hrul
  rw [HN.out] at hst
  clear SG hb4 hW0 hsz0 hrul hV3 bS
  refine wpIn_rangeFunc_ownH hro h1 (gf := 139) (lb := #[.pointer (some ⟨w.heap.size + 3, 0, none⟩)]) rfl trivial (enters_of Tryz.func139 (by kernel_rfl) rfl)
    hst (fun h k => h.trans k) (bk_b (by omega) (by omega)) (Below.refl _ _) (fun _ => rfl)
    (fun pre W => EL w y false W ∧ w.heap.size + 3 < W.heap.size ∧ ∀ x ∈ pre, (y % x.1.2.every == x.1.2.rest) = false)
    (fun c pre W => c = .ret ∧ ∃ p x, pre = p ++ [x] ∧ (∀ z ∈ p, (y % z.1.2.every == z.1.2.rest) = false) ∧ (y % x.1.2.every == x.1.2.rest) = true ∧ EL w y x.1.2.yes W)
    (lp_own (by omega) _)
    (fun c => Xu (by omega) c)
    ⟨hV4, by omega, fun _ h => nomatch h⟩
    (fun x a' W => ∃ B, w.heap.size + 3 < B ∧ W.heap[B]? = some (.cells x.1.2.cells.toArray 131 (0, 0)) ∧ a' = ({ tmps := #[.agg #[I ep, .slice A mm a, I lp, .slice R n r, S], I y, .pointer (some ⟨w.heap.size, 0, none⟩), .pointer (some ⟨w.heap.size + 1, 0, none⟩), .pointer (some ⟨w.heap.size + 1 + 1, 0, none⟩), undef, .pointer (some ⟨B, 0, none⟩), .pointer (some ⟨w.heap.size, 0, none⟩), .pointer (some ⟨w.heap.size, 3, none⟩), .slice R n r, .func (.func 139) #[] #[.pointer (some ⟨w.heap.size + 1 + 1 + 1, 0, none⟩)], I (x.1.1 : Int), .agg x.1.2.cells.toArray, undef, undef, undef, undef, undef, undef, undef, undef, undef], defers := [] } : Act))
    (fun x a' _ X Y row hs hg hr => by obtain ⟨B, h1, h2, h3⟩ := hs; exact ⟨B, h1, ES B _ _ () X Y row h2 hg hr, h3⟩)
    ?assign ?body ?done ?stop
  case assign =>
    rintro l pre ⟨⟨i, ⟨ev, re, ye⟩⟩, hx⟩ W K hci hK
    have G5 := ae hci
    have hsz := hci.2.1
    clear hci
    rw [foldl2]
    simp only [Lr.cells, List.setIfInBounds_toArray, List.set_cons_succ, List.set_cons_zero]
    gi_wp2_with (first | ((with_reducible refine Ir 131 ?_); refine ry rfl _ rfl #[I 0, I 0, .bool false] (by kernel_rfl) ?_) | ((with_reducible refine wB 131 ?_); go_must (refine jL rfl _ _ _ rfl #[I ev, I re, .bool ye] rfl rfl 131 #[I 0, I 0, .bool false] rfl (by kernel_rfl) rfl (by kernel_rfl) ?_); intro W5 hb5 hs5 hh5 yV hk5; have rV := ae hb5; have HH5 := ae hh5; have Ce := ae hk5; clear hb5 hs5 hh5 yV hk5))
    exact hK _ _ (Ce.out.from _) ⟨rV.out.mono (by omega), rV.out.cell (p := ⟨w.heap.size + 3, 0, none⟩) (by show w.heap.size + 3 < _; omega)⟩ ⟨G5.out.1.grow rV.out, dW hsz rV.out.size, G5.out.2.2⟩ ⟨W.heap.size, by omega, HH5.out, rfl⟩
  case body =>
    rintro l pre x a' W hl _ hci ⟨B, hB, hblk, rfl⟩ hlt2
    obtain ⟨⟨i, ⟨ev, re, ye⟩⟩, hx⟩ := x
    simp only [Lr.cells] at hblk ⊢
    have hev : 1 ≤ ev ∧ ev ≤ 400 := Z9.out _ (gU hx)
    have hc0 : W.cell? ⟨B, 0, none⟩ = some (I ev) := cell_of_row W B 0 _ _ _ hblk
    have hc1 : W.cell? ⟨B, 1, none⟩ = some (I re) := cell_of_row W B 1 _ _ _ hblk
    have hc2 : W.cell? ⟨B, 2, none⟩ = some (.bool ye) := cell_of_row W B 2 _ _ _ hblk
    have hcy : W.cell? ⟨w.heap.size + 1, 0, none⟩ = some (I y) := cell_of_row W _ 0 _ _ _ hci.1.yr
    have hcr : W.cell? ⟨w.heap.size + 1 + 1, 0, none⟩ = some (.bool false) := cell_of_row W (w.heap.size + 2) 0 _ _ _ hci.1.res
    have hfr : W.frozen? ⟨w.heap.size + 1 + 1, 0, none⟩ = false := frozen_of_row _ (w.heap.size + 2) 0 _ _ hci.1.res
    have G5 := ae hci
    have YV := ae (fun W' => Ap y ev W' (by omega) (by omega))
    clear hci hblk
    gi_wp2_with fail
    refine qp (by kernel_rfl) (by kernel_rfl) (by kernel_rfl) ?_
    iterate 7 (
      refine wpQuietIn_step (by first | (go_simp; done) | exact fun _ _ _ _ => True.intro) (fun K hK => ?_)
      go_simp
      first
        | (refine hK _ ?_; clear hK K)
        | (apply Exists.intro
           refine ⟨fun _ => ?_, hK _ ?_⟩
           (gi_at_call 117; exact CallsIn.quiet_of_same (callsIn_wide.2 (YV.out _)))
           clear hK K))
    refine wpQuietIn_nil ?_
    rintro _ ⟨k, rfl⟩
    obtain ⟨t, ht⟩ : ∃ t, (y % ev == re) = t := ⟨_, rfl⟩
    have HT := ae ht
    rw [ht]
    clear ht hc0 hc1 hcy
    have HCK := ae (G5.out.1.grow (below_drewN' W k))
    cases t
    · gi_wp2
      exact ⟨(show KeepsOthers W (W.drewN k) from ⟨Nat.le_refl _, fun _ _ h _ => h⟩).from _, ⟨(below_drewN' W k).mono G5.out.1.up.size, rfl⟩, HCK.out, G5.out.2.1, fun x hx => by
        rcases List.mem_append.1 hx with h1 | h1
        · exact G5.out.2.2 x h1
        · rw [List.mem_singleton.1 h1]
          exact HT.out⟩
    · gi_wp2
      iterate 4 (try (rw [Oper.semAt_eq _ _ _ (fun c h => by cases h)]; go_simp; gi_wp2))
      exact ⟨((show KeepsOthers W (W.drewN k) from ⟨Nat.le_refl _, fun _ _ h _ => h⟩).trans (KeepsOthers.setCell _ _ _)).from _, rfl, pre, _, rfl, G5.out.2.2, HT.out, HCK.out.set ye⟩
  case done =>
    rintro D ys W hD rfl ⟨hlp, hsz, hall⟩ hK
    have hcr : W.cell? ⟨w.heap.size + 1 + 1, 0, none⟩ = some (.bool false) := cell_of_row W (w.heap.size + 2) 0 _ _ _ hlp.res
    have hfr : W.frozen? ⟨w.heap.size + 1 + 1, 0, none⟩ = false := frozen_of_row _ (w.heap.size + 2) 0 _ _ hlp.res
    have JG := ae hlp
    have jo := ae hall
    clear hlp hall
    gi_wp2
    have hK2 : (W.setCell ⟨w.heap.size + 1 + 1, 0, none⟩ (.bool false)).heap[D]? = some (.deferred (some [])) := (heap_setCell_other W _ _ _ (by show D ≠ w.heap.size + 1 + 1; omega)).trans hK
    refine ⟨by simp, .inl ⟨_, _, rfl, run_takeDeferred hK2, ?_⟩⟩
    have HS := ae (JG.out.set false)
    refine ⟨_, uQ rfl _ _ (w.heap.size + 2) _ (.bool false) rfl ((World.putObj_heap_other (by omega)).trans HS.out.res) Tryz.underlying4, ?_⟩
    have hF : yf rs y = false := lpG_no (by rw [HN.out]; exact jo.out)
    rw [hF]
    exact ⟨rfl, HS.out.up.trans (belowK_b (w := W0) (n₀ := w.heap.size) (by omega) _ D _ (.deferred none) hD hK2 rfl rfl)⟩
  case stop =>
    rintro D c pre W hD hpre ⟨rfl, p, x, hpx, hfa, ht, hlp⟩ hK
    have JG := ae hlp
    have HT := ae ht
    clear hlp ht
    gi_wp2
    refine ⟨by simp, .inl ⟨_, _, rfl, run_takeDeferred hK, ?_⟩⟩
    refine ⟨_, uQ rfl _ _ (w.heap.size + 2) _ (.bool x.1.2.yes) rfl ((World.putObj_heap_other (by omega)).trans JG.out.res) Tryz.underlying4, ?_⟩
    have hF : yf rs y = x.1.2.yes := by
      obtain ⟨k, hk, e⟩ := hpre
      exact Xt (by rw [HN.out]; exact hk) (hpx.symm.trans e) hfa HT.out
    rw [hF]
    exact ⟨rfl, JG.out.up.trans (belowK_b (w := W0) (n₀ := w.heap.size) (by omega) _ D _ (.deferred none) hD hK rfl rfl)⟩
end Go.Proofs.YtbaehbbonkljpaaGreat
