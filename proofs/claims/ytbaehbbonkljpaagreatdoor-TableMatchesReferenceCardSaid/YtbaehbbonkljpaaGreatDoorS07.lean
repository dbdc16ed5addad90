/- The texts Kd, Na, Ja, Nb, in this order. -/
import Derived.Test.YtbaehbbonkljpaaGreatDoorS00
import Derived.Sort.QuietTacIn
import Derived.Test.YtbaehbbonkljpaaGreatDoorS01
import Derived.Test.YtbaehbbonkljpaaGreatDoorS06
set_option maxRecDepth 10000
set_option maxHeartbeats 8000000
namespace Go.Proofs.YtbaehbbonkljpaaGreatDoor
open Go Go.RowKit
def ytr (c:Cal) (bg y:Int) (r r':Yr) (out:List Tr):List Tr:=if (findF c bg y r).2=true then rP out ⟨(findF c bg y r).1*1440+r.minute - r'.off,r.off⟩ else out
def Vy (c:Cal) (r0 r1:Yr) (stop:Int):Nat->Int->Int->List Tr->List Tr
 |0,_,_,out=>out
 |n+1,bg,y,out=>if bg<stop then Vy c r0 r1 stop n (bg+Ph c y) (y+1) (ytr c bg y r1 r0 (ytr c bg y r0 r1 out)) else out
def Wv (z:Zn):List Tr:=match z.aH with
 | [r0,r1]=>Vy z.cal r0 r1 (z.cal.bn+Kq z) 1400 z.cal.bn 1 []
 |_=> []
def gU (ts:List Tr) (i:Nat):Int:=(ts[i]?.map (·.at_)).getD 0
def lq (ts:List Tr) (size:Int) (i:Nat):Int:=(if i+1<ts.length then gU ts (i+1) else gU ts 0+size) - gU ts i
def eH (ts:List Tr) (size:Int):Bool:=(List.range ts.length).all fun i=>decide (2160<=lq ts size i)
structure YrS (r:Yr):Prop where
 mo:r.month=1\/r.month=2
 wk:1<=r.cZ/\r.cZ<=5
 wd:0<=r.dh/\r.dh<=6
 mi:0<=r.minute/\r.minute<=1439
 of: -1080<=r.off/\r.off<=1080
theorem YB (wd wk:Int) (n:Nat):∀d cn la:Int, -1<=la->la<=d-> -1<=(gI wd wk n d cn la).1/\(gI wd wk n d cn la).1<=d+n\/(gI wd wk n d cn la).1=d:=by
 induction n with
 |zero=>intro d cn la h1 h2;exact .inl ⟨h1,by show la<=_;omega⟩
 |succ n ih=>
  intro d cn la h1 h2;unfold gI;split
  ·split
   ·exact .inr rfl
   ·rcases ih (d+1) (cn+1) d (by omega) (by omega) with h|h
    ·exact .inl ⟨h.1,by omega⟩
    ·exact .inl ⟨by omega,by omega⟩
  ·rcases ih (d+1) cn la h1 (by omega) with h|h
   ·exact .inl ⟨h.1,by omega⟩
   ·exact .inl ⟨by omega,by omega⟩
theorem Uh {ts:List Tr} {t x:Tr} (h:x∈rP ts t):x=t\/x∈ts:=by
 unfold rP at h;rcases List.mem_append.1 h with h|h
 ·exact .inr (List.mem_of_mem_take h)
 ·rcases List.mem_cons.1 h with h|h
  ·exact .inl h
  ·exact .inr (List.mem_of_mem_drop h)
theorem iO.below {lo n c:Nat} {w w':World} {A:Option Addr} {ts:List Tr} (h:iO lo w A n c ts) (hb:Below w.heap.size w w'):iO lo w' A n c ts:=
 World.ownsRow.kept (row:=none) h ⟨hb.os,hb.tape,hb.output,hb.size,fun k hk _=>hb.block k hk⟩ (by cases (Value.slice A n c).ownBlock<;>simp)
structure YS (w:World) (cs:Array Value) (W:World) (A:Option Addr) (n c:Nat) (ts:List Tr):Prop where
 row:Row W w.heap.size cs
 own:iO (w.heap.size+1) W A n c ts
 up:Below w.heap.size w W
 len:ts.length=n
theorem YS.call {w W W':World} {cs:Array Value} {A:Option Addr} {n c:Nat} {ts:List Tr} (h:YS w cs W A n c ts) (hb:Below W.heap.size W W'):YS w cs W' A n c ts:=
 ⟨h.row.keep hb,h.own.below hb,ah h.up hb,h.len⟩
theorem YS.ins {w W W':World} {cs:Array Value} {A A':Option Addr} {n c c':Nat} {ts ts':List Tr} (h:YS w cs W A n c ts) (hb:Below (w.heap.size+1) W W') (ho:iO (w.heap.size+1) W' A' (n+1) c' ts') (hl:ts'.length=n+1):YS w cs W' A' (n+1) c' ts':=
 ⟨⟨dP h.row.1 hb.size,fun i=>(hb.cell (p:=⟨w.heap.size,i,none⟩) (Nat.lt_succ_self _)).trans (h.row.2 i)⟩,ho,h.up.trans (hb.mono (Nat.le_succ _)),hl⟩
theorem YS.lo {w W:World} {cs:Array Value} {A:Option Addr} {n c:Nat} {ts:List Tr} (h:YS w cs W A n c ts):w.heap.size+1<=W.heap.size:=h.row.1
structure YC (W:World) (b off:Nat) (r0 r1:Yr):Prop where
 a:W.rangeAt b off r0.cells
 b:W.rangeAt b (off+5) r1.cells
def Xv (w:World) (ts:List Tr) (ok:Bool) (e:Ending) (w':World):Prop:=∃A n c,ts.length=n/\e= .returned (.tuple #[.slice A n c, .bool ok])/\iO w.heap.size w' A n c ts/\Below w.heap.size w w'
theorem iO.lower {lo lo' n c:Nat} {w:World} {A:Option Addr} {ts:List Tr} (h:iO lo w A n c ts) (hl:lo'<=lo):iO lo' w A n c ts:=by
 rcases h.2 with h2|⟨g,cap,cur,h1,h2,h3⟩
 ·exact ⟨h.1, .inl h2⟩
 ·exact ⟨h.1, .inr ⟨g,cap,cur,h1,Nat.le_trans hl h2,h3⟩⟩
def GRel (w:World) (cs:Array Value) (A:Option Addr) (n cp:Nat) (ts:List Tr) (size:Int) (i:Value) (wr:World):Prop:=
 ∃k:Nat,k<=n/\i= .int .i64 k/\(∀j,j<k->2160<=lq ts size j)/\YS w cs wr A n cp ts
theorem rX {lo g n cp:Nat} {W:World} {ts:List Tr} (h:iO lo W (some ⟨g,0,none⟩) n cp ts) (hl:ts.length=n) (k:Nat) (hk:k<n):W.cell? ⟨g,k*2,none⟩=some (I (gU ts k)):=by
 have hx:ts[k]? =some ts[k]:=bK (by omega);rw [World.ownsRow.cellAt h (k*2) (by omega),show k*2=k*2+0 from rfl,flat_get (s:=2) Tr.cells ts (fun _ _=>rfl) k 0 _ hx (by omega)];unfold gU;rw [hx];rfl
theorem Jb {ts:List Tr} {n:Nat} {size:Int} (hl:ts.length=n) (h:∀j,j<n->2160<=lq ts size j):eH ts size=true:=by
 unfold eH;rw [List.all_eq_true];intro j hj;exact decide_eq_true (h j (by rw [<-hl];exact List.mem_range.1 hj))
theorem OA {ts:List Tr} {n k:Nat} {size:Int} (hl:ts.length=n) (hk:k<n) (h:lq ts size k<2160):eH ts size=false:=by
 unfold eH;rw [List.all_eq_false];exact ⟨k,List.mem_range.2 (by omega),by simp;omega⟩
theorem ET {ts:List Tr} {k:Nat} {size:Int} (h:∀j,j<k->2160<=lq ts size j) (h1:2160<=lq ts size k):∀j,j<k+1->2160<=lq ts size j:=by
 intro j hj;rcases Nat.lt_succ_iff_lt_or_eq.1 hj with h2|rfl
 ·exact h j h2
 ·exact h1
theorem XK (a b:Int) (hb:0<b):(a.tmod b<0->a%b=a.tmod b+b)/\(¬a.tmod b<0->a%b=a.tmod b):=by
 have h0:=Int.emod_nonneg a (show b≠0 by omega);have h1:=Int.emod_lt_of_pos a hb;have hn:((b.natAbs:Nat):Int)=b:=Int.natAbs_of_nonneg (by omega);by_cases hc:0<=a\/b∣a
 ·have e:=Int.tmod_eq_emod (a:=a) (b:=b);rw [if_pos hc] at e;constructor<;>intro h<;>omega
 ·have e:=Int.tmod_eq_emod (a:=a) (b:=b);rw [if_neg hc,hn] at e;constructor<;>intro h<;>omega
theorem Nc (a b:Int) (w:World) (hb:0<b) (hb2:b<=1000000000):
  Calls Tryz.prog 155 #[I a,I b] w fun e w'=>e= .returned (I (a%b))/\w'=w:=by
 have h0:=Int.emod_nonneg a (show b≠0 by omega);have h1:=Int.emod_lt_of_pos a hb;have hb0:b≠0:=by omega
 have hb1:b≠ -1:=by omega
 obtain ⟨e1,e2⟩:=XK a b hb;obtain ⟨q,hq⟩:∃q,a.tmod b=q:=⟨_,rfl⟩;obtain ⟨p,hp⟩:∃p,a%b=p:=⟨_,rfl⟩;rw [hq] at e1 e2;rw [hp] at e1 e2 h0 h1 ⊢;by_cases hs:q<0
 ·have e3:=e1 hs;have hw:IntKind.i64.wrap (q+b)=q+b:=by rw [IntKind.wrap_i64];omega
  subst e3;clear e1 e2 hp;go_enter Tryz.func155,Tryz.ntmps155
  go_wp2
  go_ret;exact ⟨rfl,rfl⟩
 ·have e3:=e2 hs;subst e3;clear e1 e2 hp;go_enter Tryz.func155,Tryz.ntmps155
  go_wp2
  go_ret;exact ⟨rfl,rfl⟩
theorem Nb (a b:Int) (w:World) (hb:0<b) (hb2:b<=1000000000):
  Calls Tryz.prog 148 #[I a,I b] w fun e w'=>e= .returned (.tuple #[I (a%b),I 0])/\w'=w:=by
 have hb1:¬b<1:=by omega
 have HM:=ae (Nc a b w hb hb2);go_enter Tryz.func148,Tryz.ntmps148;go_wp2_with fail;refine HM.out.mono ?_;rintro e w1 ⟨rfl,rfl⟩;go_wp2_with fail;go_ret2;exact ⟨rfl,rfl⟩
theorem BJ (a b:Int) (w:World) (hb:0<b) (hb2:b<=1000000000):
  Calls Tryz.prog 135 #[I a,I b] w fun e w'=>e= .returned (I (a%b))/\w'=w:=by
 have HM:=ae (Nb a b w hb hb2);go_enter Tryz.func135,Tryz.ntmps135;go_wp2_with fail;refine HM.out.mono ?_;rintro e w1 ⟨rfl,rfl⟩;go_wp2_with fail;go_ret;exact ⟨rfl,rfl⟩
theorem zH (a:Int) (w:World):
  Calls Tryz.prog 127 #[I a] w fun e w'=>e= .returned (I (a%7))/\w'=w:=by
 have HM:=ae (BJ a 7 w (by omega) (by omega));go_enter Tryz.func127,Tryz.ntmps127;go_wp2_with fail;refine HM.out.mono ?_;rintro e w1 ⟨rfl,rfl⟩;go_wp2_with fail;go_ret;exact ⟨rfl,rfl⟩
def ElR (ts:List Lr):Type:= {x:Nat×Lr // ts[x.1]? =some x.2}
def Tz (ts:List Lr) (m:Nat):List (ElR ts):=if h:m<ts.length then [⟨(m,ts[m]),bK h⟩] else []
def IU (ts:List Lr):Nat->List (ElR ts)
 |0=> []
 |k+1=>IU ts k++Tz ts (ts.length - 1 - k)
theorem IV (ts:List Lr) (k m:Nat) (x:Lr) (hx:ts[m]? =some x) (hm:m=ts.length - 1 - k):IU ts (k+1)=IU ts k++ [⟨(m,x),hx⟩]:=by
 subst hm;obtain ⟨h1,h2⟩:=gQ.1 hx;subst h2;show IU ts k++Tz ts (ts.length - 1 - k)=_;unfold Tz;rw [dif_pos h1]
theorem LM (ts:List Lr) (k:Nat) (hk:k<=ts.length):(IU ts k).length=k:=by
 induction k with
 |zero=>rfl
 |succ k ih=>
  show (IU ts k++Tz ts (ts.length - 1 - k)).length=k+1;unfold Tz;rw [bF,ih (by omega),dif_pos (by omega)];rfl
def SH (w:World) (b off:Nat) (ts:List Lr):Prop:=∀j x,ts[j]? =some x->w.rangeAt b (off+j*3) x.cells/\x.cells.length=3
theorem P7 (F:Fence) (n:Nat) (h7:F.fn 157) (hro:F.round=none) (hn:1<=n) (l Bs n₀ b off cap:Nat) (bs:List Lr) (hreach:bs.length<=100000) (hb:b<n₀) (J Jx:List (ElR bs)->World->Prop)
  (hY:∀pre x W,J pre W->pre.length<bs.length->YieldAt F (n - 1) Tryz.prog l #[.int .i64 (x.1.1:Int), .agg x.1.2.cells.toArray] W fun e W'=>
   (e= .returned (.bool true)/\J (pre++ [x]) W'/\BK n₀ Bs W W')\/(e= .returned (.bool false)/\Jx (pre++ [x]) W'))
  (W:World) (hBs:W.cell? ⟨Bs,0,none⟩=some (.slice (some ⟨b,off,none⟩) bs.length cap)) (hc:SH W b off bs) (h0:J [] W):
  CallsIn F n Tryz.prog 157 #[.func (.yield l) #[] #[], .pointer (some ⟨Bs,0,none⟩)] W fun e W'=>(∃v,e= .returned v)/\
   ((∃ys,ys=IU bs bs.length/\J ys W')\/(∃pre,(∃k,k<=bs.length/\pre=IU bs k)/\Jx pre W')):=by
 refine callsIn_of_wp Tryz.func157 rfl h7 ?_ hro;simp only [Tryz.ntmps157,List.size_toArray,List.length_cons,List.length_nil,Nat.reduceAdd,Nat.reduceSub,Array.replicate_succ,Array.replicate_zero,List.push_toArray,List.append_toArray,List.nil_append,List.cons_append]
 gi_wp2
 gi_loopw [3] (fun i wr=>∃k:Nat,k<=bs.length/\i= .int .i64 ((bs.length:Int) - 1 - k)/\J (IU bs k) wr/\BK n₀ Bs W wr)
  (fun i _=>((intOf i)+1).toNat)
 case atStart=>exact ⟨0,Nat.zero_le _,by go_num,h0,BK.refl _ _ _⟩
 case round=>
  obtain ⟨k,hk,rfl,hJs,hnx⟩:=hrel;by_cases hlt:k<bs.length
  ·obtain ⟨m,hm⟩:∃m:Nat,m=bs.length - 1 - k:=⟨_,rfl⟩;have TZ:(bs.length:Int) - 1 - k=(m:Int):=by omega
   have hml:m<bs.length:=by omega
   obtain ⟨x,hxx⟩:∃x,bs[m]? =some x:=⟨_,bK hml⟩;have hcx:wr.rangeAt b (off+m*3) x.cells/\x.cells.length=3:=⟨aS (hc m x hxx).1 hnx.lo hb,(hc m x hxx).2⟩;obtain ⟨hcx,hc3⟩:=hcx;have yf:=ae hcx;have H3:Hid ((Tryz.prog.info? 118).map (·.size)=some x.cells.length):=ae (by rw [hc3];kernel_rfl);have hbx:wr.cell? ⟨Bs,0,none⟩=some (.slice (some ⟨b,off,none⟩) bs.length cap):=hnx.box.trans hBs;obtain ⟨fn,tmps,assign,body,hy,hR⟩:=hY _ ⟨(m,x),hxx⟩ wr hJs (by rw [LM _ _ hk];exact hlt);dsimp only at hy;rw [TZ];have HM:=ae hm;have Si:=ae TZ;have HX:Hid (IU bs (k+1)=IU bs k++ [⟨(m,x),hxx⟩]):=ae (IV bs k m x hxx hm);clear hm TZ hcx hc3
   gi_wp2_with (with_reducible refine Gm 118 ?_;refine og rfl _ _ rfl b (off+m*3) rfl x.cells _ yf.out Tryz.underlying118 rfl H3.out ?_)
   refine hR.mono ?_;rintro e W3 (⟨rfl,hJ3,hk3⟩|⟨rfl,hJx3⟩)
   ·gi_wp2
    go_roundw
    case rel=>exact ⟨k+1,by omega,by have:=Si.out;congr 1;omega,by rw [HX.out];exact hJ3,hnx.trans hk3⟩
    case measure=>simp [intOf]
   ·gi_wp2
    refine bodyPost_ret (results_none rfl _ _ _) rfl ?_;exact ⟨⟨_,rfl⟩, .inr ⟨_,⟨k+1,by omega,by rw [HX.out]⟩,hJx3⟩⟩
  ·have hke:k=bs.length:=by omega
   have Hw:=ae hke;clear hke
   gi_wp2
   go_end0
   exact ⟨⟨_,rfl⟩, .inl ⟨_,by rw [Hw.out],hJs⟩⟩
theorem D5 (F:Fence) (n:Nat) (h7:F.fn 157) (hro:F.round=none) (l Bs:Nat) (A:Option Addr) (c:Nat) {α:Type} (J:List α->World->Prop) (W:World) (hBs:W.cell? ⟨Bs,0,none⟩=some (.slice A 0 c)) (h0:J [] W):
  CallsIn F n Tryz.prog 157 #[.func (.yield l) #[] #[], .pointer (some ⟨Bs,0,none⟩)] W fun e W'=>(∃v,e= .returned v)/\J [] W':=by
 refine callsIn_of_wp Tryz.func157 rfl h7 ?_ hro;simp only [Tryz.ntmps157,List.size_toArray,List.length_cons,List.length_nil,Nat.reduceAdd,Nat.reduceSub,Array.replicate_succ,Array.replicate_zero,List.push_toArray,List.append_toArray,List.nil_append,List.cons_append]
 gi_wp2
 gi_loopw [3] (fun i wr=>i= .int .i64 (-1)/\J [] wr) (fun _ _=>0)
 case atStart=>exact ⟨rfl,h0⟩
 case round=>
  obtain ⟨rfl,hJs⟩:=hrel
  gi_wp2
  go_end0
  exact ⟨⟨_,rfl⟩,hJs⟩
theorem S9 (F:Fence) (n:Nat) (h5:F.fn 154) (hro:F.round=none) (a:Option Addr) (len cap:Nat) (w:World):
  CallsIn F n Tryz.prog 154 #[.slice a len cap] w fun e w'=>e= .returned (.func (.func 157) #[] #[.pointer (some ⟨w.heap.size,0,none⟩)])/\w'=w.alloc (.cells #[.slice a len cap] 63):=by
 refine callsIn_of_wp Tryz.func154 rfl h5 ?_ hro;simp only [Tryz.ntmps154,List.size_toArray,List.length_cons,List.length_nil,Nat.reduceAdd,Nat.reduceSub,Array.replicate_succ,Array.replicate_zero,List.push_toArray,List.append_toArray,List.nil_append,List.cons_append]
 gi_wp2
 go_ret;exact ⟨rfl,rfl⟩
theorem IP (F:Fence) (n:Nat) (h7:F.fn 157) (hro:F.round=none) (hn:1<=n) (Bs n₀:Nat) (A:Option Addr) (cap:Nat) (bs:List Lr) (hreach:bs.length<=100000) (w:World) (hBs:Bs<w.heap.size) (hn₀:n₀<=w.heap.size)
  (hc:w.cell? ⟨Bs,0,none⟩=some (.slice A bs.length cap)) (hI:bs.length=0\/∃b off,A=some ⟨b,off,none⟩/\b<n₀/\SH w b off bs):
  SeqStopsK F n Tryz.prog 157 #[.pointer (some ⟨Bs,0,none⟩)] (fun x:ElR bs=> #[Value.int .i64 (x.1.1:Int), .agg x.1.2.cells.toArray]) (BK n₀ Bs) (fun ys=>ys=IU bs bs.length)
   (fun pre=>∃k,k<=bs.length/\pre=IU bs k) bs.length w:=fun l J Jx W hW _ _ hY h0=>by
 have hc':=(hW.cell (p:=⟨Bs,0,none⟩) hBs).trans hc;rcases hI with h|⟨b,off,rfl,hb,hcs0⟩
 ·rw [h] at hc';exact (D5 F n h7 hro l Bs A cap J W hc' h0).mono fun e W' ⟨he,hj⟩=>⟨he, .inl ⟨_,by rw [h];rfl,hj⟩⟩
 ·exact P7 F n h7 hro hn l Bs n₀ b off cap bs hreach hb J Jx hY W hc' (fun j x hx=>⟨aS (hcs0 j x hx).1 (hW.mono hn₀) hb,(hcs0 j x hx).2⟩) h0
def jU:List Lr->Nat->Option Nat
 | [],y=>some y
 |r::rs,y=>if r.every<1\/400<r.every\/r.rest<0\/r.every<=r.rest then none else if 400<Nat.lcm y r.every.toNat then none else jU rs (Nat.lcm y r.every.toNat)
def Yp:Option Nat->Value
 |none=> .tuple #[I 0, .bool false]
 |some y=> .tuple #[I (y:Int), .bool true]
theorem OQ:∀(rs:List Lr) (y N:Nat),1<=y->y<=400->jU rs y=some N->1<=N/\N<=400
 | [],y,N,h1,h2,h=>by
  injection h with h;omega
 |r::rs,y,N,h1,h2,h=>by
  unfold jU at h;split at h
  ·cases h
  ·rename_i hb;split at h
   ·cases h
   ·rename_i hl;refine OQ rs _ N (Nat.lcm_pos (by omega) (by omega)) (by omega) h
theorem Jp (rs:List Lr) (R:Option Addr) (r n:Nat) (w:World) (h:aA w w.heap.size R (rs.flatMap Lr.cells)) (hn:rs.length=n) (hn2:n<=100000):Calls Tryz.prog 107 #[.slice R n r] w (Gives (Yp (jU rs 1)) w):=by
 have HN:=ae hn;have HC:=ae h;have FK:Hid ((rs.flatMap Lr.cells).length=n*3):=ae (by rw [bZ (s:=3) Lr.cells rs (fun _ _=>rfl),hn]);clear h hn;go_enter Tryz.func107,Tryz.ntmps107;go_wp2_with fail
 go_loopw [4,11] (fun y i wr=>∃k Y:Nat,k<=n/\y=I (Y:Int)/\i=I (k:Int)/\1<=Y/\Y<=400/\jU rs 1=jU (rs.drop k) Y/\Below w.heap.size w wr) (fun _ i _=>n - (intOf i).toNat)
 case atStart=>exact ⟨0,1,Nat.zero_le _,rfl,rfl,by omega,by omega,rfl,Below.refl _ _⟩
 case round=>
  obtain ⟨k,Y,hk,rfl,rfl,hy1,hy2,hp,hb⟩:=hrel;have HB:=ae hb;have HP:=ae hp;clear hb hp;by_cases hlt:k<n
  ·obtain ⟨x,hx⟩:∃x,rs[k]? =some x:=⟨_,bK (by rw [HN.out];exact hlt)⟩;obtain ⟨b,off,rfl,hbl,hcl⟩:=HC.out.there (by rw [FK.out];omega);have hr:=aS (aA.elem (s:=3) (f:=Lr.cells) (fun _ _=>rfl) hcl k x hx) HB.out hbl;have hd:rs.drop k=x::rs.drop (k+1):=by
    rw [List.drop_eq_getElem_cons (by rw [HN.out];exact hlt)];rw [bK (by rw [HN.out];exact hlt)] at hx;injection hx with hx;rw [hx]
   rw [hd] at HP;obtain ⟨ev,re,ye⟩:=x;have f0:wr.cell? ⟨b,off+k*3,none⟩=some (I ev):=hr 0 _ rfl;have f1:wr.cell? ⟨b,off+k*3+1,none⟩=some (I re):=hr 1 _ rfl;have f2:wr.cell? ⟨b,off+k*3+2,none⟩=some (.bool ye):=hr 2 _ rfl;have i0:(0:Int)<=(k:Int):=by omega
   have i1:(k:Int)<(n:Int):=by omega
   have hne:¬b=wr.heap.size:=by have:=HB.out.size;omega
   have HB2:=ae (ah HB.out (ag wr (.cells #[I ev,I re, .bool ye] 118)));by_cases hbad:ev<1\/400<ev\/re<0\/ev<=re
   ·have hF:jU rs 1=none:=by rw [HP.out];unfold jU;rw [if_pos hbad]
    have HF:=ae hF;have hb4:ev<1\/(¬ev<1/\400<ev)\/(¬ev<1/\¬400<ev/\re<0)\/(¬ev<1/\¬400<ev/\¬re<0/\ev<=re):=by omega
    clear hbad hd hr hcl hx hF;rcases hb4 with g1|⟨g1,g2⟩|⟨g1,g2,g3⟩|⟨g1,g2,g3,g4⟩
    all_goals
     go_wp2_with fail;go_ret2;exact ⟨by rw [HF.out];rfl,HB2.out⟩
   ·have g1:¬ev<1:=fun h=>hbad (.inl h);have g2:¬400<ev:=fun h=>hbad (.inr (.inl h));have g3:¬re<0:=fun h=>hbad (.inr (.inr (.inl h)));have g4:¬ev<=re:=fun h=>hbad (.inr (.inr (.inr h)));obtain ⟨E,rfl⟩:∃E:Nat,ev=(E:Int):=⟨ev.toNat,by omega⟩;have HLC:=ae (fun W=>X6 Y E hy1 hy2 (by omega) (by omega) W);obtain ⟨L,hL⟩:∃L,Nat.lcm Y E=L:=⟨_,rfl⟩;have hL1:1<=L:=by rw [<-hL];exact Nat.lcm_pos (by omega) (by omega)
    have hP2:jU rs 1=if 400<L then none else jU (rs.drop (k+1)) L:=by
     rw [HP.out];show (if _ then _ else _)=_;rw [if_neg hbad,Int.toNat_natCast,hL]
    have HP2:=ae hP2;rw [hL] at HLC;clear hbad hd hr hcl hx hP2 hL HP;go_upto_region 8 with fail;refine (HLC.out _).mono ?_;rintro e w5 ⟨rfl,hb5⟩;have qU:=ae (ah HB2.out hb5);clear hb5 HB2 HLC f0 f1 f2;by_cases hL4:400<L
    ·have hl:(400:Int)<(L:Int):=by omega
     have HF:Hid (jU rs 1=none):=ae (by rw [HP2.out,if_pos hL4]);go_wp2_with fail;go_ret2;exact ⟨by rw [HF.out];rfl,qU.out⟩
    ·have hl:¬(400:Int)<(L:Int):=by omega
     have HF:Hid (jU rs 1=jU (rs.drop (k+1)) L):=ae (by rw [HP2.out,if_neg hL4]);go_wp2_with fail;go_roundw
     case rel=>exact ⟨k+1,L,by omega,rfl,by go_num,hL1,by omega,HF.out,qU.out⟩
     case measure=>simp [intOf];omega
  ·have hkn:k=n:=by omega
   have hlt':¬(k:Int)<(n:Int):=by omega
   have HF:Hid (jU rs 1=some Y):=ae (by rw [HP.out,List.drop_of_length_le (by rw [HN.out];omega)];rfl);clear hlt hkn;go_wp2_with fail;go_ret2;exact ⟨by rw [HF.out];rfl,HB.out⟩
structure fJ (c:Cal):Prop where
 ep:0<=c.bn/\c.bn<=1048576
 ml:1<=c.au.length/\c.au.length<=16
 lp: -1<=c.dA/\c.dA<(c.au.length:Int)
 rl:c.rules.length<=16
 nl:c.dA= -1->c.rules.length=0
 mo:∀m∈c.au,1<=m/\m<=40
 per:(jU c.rules 1).isSome=true
def vC (c:Cal):Bool:=decide (0<=c.bn/\c.bn<=1048576)&&(decide (1<=c.au.length/\c.au.length<=16)&&(decide (-1<=c.dA/\c.dA<(c.au.length:Int))&&(decide (c.rules.length<=16)&&(decide (c.dA= -1->c.rules.length=0)&&(c.au.all (fun m=>decide (1<=m/\m<=40))&&(jU c.rules 1).isSome)))))
theorem CZ (c:Cal):vC c=true↔fJ c:=by
 unfold vC;simp only [Bool.and_eq_true,decide_eq_true_eq,List.all_eq_true];exact ⟨fun ⟨h1,h2,h3,h4,h5,h6,h7⟩=>⟨h1,h2,h3,h4,h5,h6,h7⟩,fun ⟨h1,h2,h3,h4,h5,h6,h7⟩=>⟨h1,h2,h3,h4,h5,h6,h7⟩⟩
theorem pY {c:Cal} (h:fJ c):vC c=true:=(CZ c).2 h
theorem C9 {c:Cal} (h:¬fJ c):vC c=false:=by
 cases e:vC c with
 |false=>rfl
 |true=>exact absurd ((CZ c).1 e) h
theorem oH (c:Cal) (A R:Option Addr) (a r:Nat) (w:World) (h:qj w w.heap.size A R c):Calls Tryz.prog 88 #[.agg (aI c A a R r)] w (Gives (.bool (vC c)) w):=by
 obtain ⟨nr,hnr⟩:∃n,c.rules.length=n:=⟨_,rfl⟩;obtain ⟨n,hn⟩:∃n,c.au.length=n:=⟨_,rfl⟩;have Iu:=ae (fun (h16:nr<=16) (W:World) (hb:Below w.heap.size w W)=>Jp c.rules R r nr W ((h.rules.keep hb).more hb.size) hnr (by omega));have e0:aI c A a R r= #[I c.bn, .slice A n a,I c.dA, .slice R nr r]:=by rw [<-hn,<-hnr];rfl
 rw [e0];have HV:=ae (jD.start w #[I c.bn, .slice A n a,I c.dA, .slice R nr r] 65);obtain ⟨lp,hlp⟩:∃l,c.dA=l:=⟨_,rfl⟩;obtain ⟨ep,mJ⟩:∃l,c.bn=l:=⟨_,rfl⟩;rw [hlp,mJ] at HV ⊢;have HM:=ae h.au;have vF:=ae (show c.au.length=n/\c.rules.length=nr/\c.dA=lp/\c.bn=ep from ⟨hn,hnr,hlp,mJ⟩);by_cases hbad:ep<0\/1048576<ep\/n<1\/16<n\/lp< -1\/(n:Int)<=lp\/16<nr\/(lp= -1/\0<nr)
 ·have HF:Hid (vC c=false):=ae (C9 fun hg=>by
   have h1:=hg.ep;have h2:=hg.ml;have h3:=hg.lp;have h4:=hg.rl;have h5:=hg.nl;omega)
  have hb4:ep<0\/(¬ep<0/\1048576<ep)\/(¬ep<0/\¬1048576<ep/\(n:Int)<1)\/(¬ep<0/\¬1048576<ep/\¬(n:Int)<1/\(16:Int)<(n:Int))\/(¬ep<0/\¬1048576<ep/\¬(n:Int)<1/\¬(16:Int)<(n:Int)/\lp< -1)\/(¬ep<0/\¬1048576<ep/\¬(n:Int)<1/\¬(16:Int)<(n:Int)/\¬lp< -1/\(n:Int)<=lp)\/(¬ep<0/\¬1048576<ep/\¬(n:Int)<1/\¬(16:Int)<(n:Int)/\¬lp< -1/\¬(n:Int)<=lp/\(16:Int)<(nr:Int))\/(¬ep<0/\¬1048576<ep/\¬(n:Int)<1/\¬(16:Int)<(n:Int)/\¬lp< -1/\¬(n:Int)<=lp/\¬(16:Int)<(nr:Int)/\lp= -1/\(0:Int)<(nr:Int)):=by omega
  clear hbad h hnr hn hlp mJ e0 Iu HM;rcases hb4 with g1|⟨g1,g2⟩|⟨g1,g2,g3⟩|⟨g1,g2,g3,g4⟩|⟨g1,g2,g3,g4,g5⟩|⟨g1,g2,g3,g4,g5,g6⟩|⟨g1,g2,g3,g4,g5,g6,g7⟩|⟨g1,g2,g3,g4,g5,g6,g7,g8,g9⟩
  all_goals
   try subst g8
   go_enter Tryz.func88,Tryz.ntmps88;go_wp2_with fail;go_ret;exact ⟨by rw [HF.out];rfl,HV.out.up⟩
 ·have g1:¬ep<0:=fun h=>hbad (.inl h);have g2:¬1048576<ep:=fun h=>hbad (.inr (.inl h));have g3:¬(n:Int)<1:=by omega
  have g4:¬(16:Int)<(n:Int):=by omega
  have g5:¬lp< -1:=by omega
  have g6:¬(n:Int)<=lp:=by omega
  have g7:¬(16:Int)<(nr:Int):=by omega
  have hnb:Hid (nr<=16/\1<=n/\n<=16):=ae (by omega);have hsp:((lp== -1)=true/\¬(0:Int)<(nr:Int))\/(lp== -1)=false:=by
   by_cases h:lp= -1
   ·exact .inl ⟨by simp [h],by omega⟩
   ·exact .inr (by simpa using h)
  have HPR:=ae (Iu.out (by omega));have HGD:Hid (0<=ep/\ep<=1048576/\1<=n/\n<=16/\ -1<=lp/\lp<(n:Int)/\nr<=16/\(lp= -1->nr=0)):=ae (by omega);clear hbad h hnr hn hlp mJ e0 Iu;rcases hsp with ⟨t0,g9⟩|t0
  all_goals
   go_enter Tryz.func88,Tryz.ntmps88;go_wp2_with fail
   go_loopw [52] (fun i wr=>∃k:Nat,k<=n/\i=I (k:Int)/\(∀m∈c.au.take k,1<=m/\m<=40)/\(Row wr w.heap.size #[I ep, .slice A n a,I lp, .slice R nr r]/\Below w.heap.size w wr)) (fun i _=>n - (intOf i).toNat)
   case atStart=>exact ⟨0,Nat.zero_le _,rfl,(fun _ h=>nomatch h),HV.out.row,HV.out.up⟩
   case round=>
    obtain ⟨k,hk,rfl,hall,hrow,hb⟩:=hrel;have HB:=ae hb;have PI:=ae hall;have HRW:=ae hrow;clear hb hall hrow HV;by_cases hlt:k<n
    ·have i0:(0:Int)<=(k:Int):=by omega
     have i1:(k:Int)<(n:Int):=by omega
     obtain ⟨x,hx⟩:∃x,c.au[k]? =some x:=⟨_,bK (by rw [vF.out.1];exact hlt)⟩;obtain ⟨b,off,rfl,hbl,hcl⟩:=HM.out.there (by rw [List.length_map,vF.out.1];omega);have f0:wr.cell? ⟨b,off+k,none⟩=some (I x):=(HB.out.cell (p:=⟨b,off+k,none⟩) hbl).trans (hcl k _ (by rw [List.getElem?_map,hx];rfl));have HX:=ae hx;clear hx hcl;by_cases hxb:x<1\/40<x
     ·have HF:Hid (vC c=false):=ae (C9 fun hg=>by
       have h1:=hg.mo x (gZ HX.out);omega)
      have hx4:x<1\/(¬x<1/\40<x):=by omega
      clear hxb;rcases hx4 with q1|⟨q1,q2⟩
      all_goals
       go_wp2_with fail;go_ret;exact ⟨by rw [HF.out];rfl,HB.out⟩
     ·have q1:¬x<1:=fun h=>hxb (.inl h);have q2:¬40<x:=fun h=>hxb (.inr h);have HN:Hid (∀m∈c.au.take (k+1),1<=m/\m<=40):=ae (by
       rw [jX c.au k x HX.out];intro m hm;rcases List.mem_append.1 hm with h1|h1
       ·exact PI.out m h1
       ·rw [List.mem_singleton.1 h1];omega)
      clear hxb;go_wp2_with fail;go_roundw
      case rel=>exact ⟨k+1,by omega,by have h16:=hnb.out;go_num,HN.out,HRW.out,HB.out⟩
      case measure=>simp [intOf];have h16:=hnb.out;omega
    ·have hkn:k=n:=by omega
     have hlt':¬(k:Int)<(n:Int):=by omega
     have HAM:Hid (∀m∈c.au,1<=m/\m<=40):=ae (by
      have h:=PI.out
      rwa [List.take_of_length_le (by rw [vF.out.1];omega)] at h)
     have v3:=HRW.out.2 3;clear hlt hkn;go_wp2_with fail;refine (HPR.out wr HB.out).mono ?_;rintro e w1 ⟨rfl,hb1⟩;have HB1:=ae (ah HB.out hb1);clear hb1 HPR;obtain ⟨p,hp⟩:∃p,jU c.rules 1=p:=⟨_,rfl⟩;have sF:=ae hp;rw [hp];clear hp;cases p with
     |none=>
      have HF:Hid (vC c=false):=ae (C9 fun hg=>by
       have h1:=hg.per;rw [sF.out] at h1;cases h1)
      unfold Yp;go_wp2_with fail;go_ret;exact ⟨by rw [HF.out];rfl,HB1.out⟩
     |some y=>
      have HF:Hid (vC c=true):=ae (pY (by
       have h1:=HGD.out;have h2:=vF.out;exact ⟨by omega,by omega,by omega,by omega,fun h=>by omega,HAM.out,by rw [sF.out];rfl⟩))
      unfold Yp;go_wp2_with fail;go_ret;exact ⟨by rw [HF.out];rfl,HB1.out⟩
section
variable {F:Fence} {n:Nat} {P:Program} {ops:Array Oper} {Q:Exit->Act->World->Prop} {md:Region.Mode}
theorem wE (l0:Nat) (hd:∀(i:Nat) (o:Oper),ops[i]? =some o->∀c,o.op≠ .defer c):∀(fuel:Nat) (listed:Array Bool) (a:Act) (w:World),wpAnyIn F n P md ops Q fuel listed a w->wpAnyIn (F.inRound l0) n P md ops Q fuel listed a w:=by
 intro fuel
 induction fuel with
 |zero=>intro listed a w h;exact h
 |succ fuel ih=>
  intro listed a w h;refine ⟨h.1,fun i hi=>?_⟩;have h2:=wpOpIn_mono (fun a w=>ih _ a w) (h.2 i hi);unfold wpOpIn at h2 ⊢;cases ho:ops[i]? with
  |none=>rw [ho] at h2;exact h2
  |some o=>
   rw [ho] at h2;simp only at h2 ⊢;split
   ·rename_i hw;rw [if_pos hw] at h2;unfold Oper.wpIn at h2 ⊢;rw [Oper.semAt_eq _ _ _ (hd i o ho)] at h2 ⊢;exact h2
   ·rename_i hw;rw [if_neg hw] at h2;exact h2
theorem rq {l0 id:Nat} {a:Act} {w:World} {l:List Oper} (hd:(l.all fun o=>match o.op with| .defer _=>false|_=>true)=true) (hm:P.follows .mixedOrders=true) (hB:Region.lexB .any l.toArray=true)
  (h:wpQuietIn Fence.wide n P l.toArray (fun w'=>∃n,w'=w.drewN n) (fun a'=>∀w',(∃n,w'=w.drewN n)->Q .normal a' w') l a):(Code.region id l.toArray true).wpIn (Fence.wide.inRound l0) n P Q a w:=by
 simp only [Region.lexB,Bool.and_eq_true] at hB;refine wpIn_region_any hm (wE l0 (fun i o ho c hc=>?_) _ _ _ _ (wpAnyIn_of_quiet (C:=fun w'=>∃n,w'=w.drewN n) (Q:=fun a'=>∀w',(∃n,w'=w.drewN n)->Q .normal a' w') rfl (fun _ w' hw' h=>h w' hw') _ _ _ _ ⟨1,rfl⟩ ?_))
 ·have hm2:o∈l:=by
   rw [List.getElem?_toArray] at ho;exact gZ ho
  have h3:=List.all_eq_true.1 hd o hm2;rw [hc] at h3;cases h3
 ·have:=wpAnyQIn_lex (F:=Fence.wide) (n:=n) (C:=fun w'=>∃n,w'=w.drewN n) (md:= .any) hB.1 l.toArray.toList 0 (Array.replicate l.toArray.size false) a (by simp) (by simpa using hB.2) (by simpa using h);simpa using this
end
theorem vX {P:Program} {fn:Func} {p:Tmp} {ty:TypeId} (h:fn.results= #[.cell p ty]) (tmps:Array Value) (w:World) (g:Nat) (t:TypeId) (v:Value) (hp:tmps.getD p undef= .pointer (some ⟨g,0,none⟩)) (hg:w.heap[g]? =some (.cells #[v] t (0,0))) (hu:P.underlying ty=some .bool):(results fn tmps).run P w= .ok v w:=by
 have hp':tmps[p]?.getD undef= .pointer (some ⟨g,0,none⟩):=by simpa using hp
 have hc:w.cell? ⟨g,0,none⟩=some v:=cell_of_row w g 0 _ _ _ hg;have ha:(isAgg ty).run P w= .ok false w:=by simp [isAgg,underlying,go_sem,hu]
 simp [results,h,hp',asAddr,loadVar,go_sem,ha,hc]
theorem foldl2 (t:Array Value) (p q:Tmp) (u v:Value):(#[p,q].zip #[u,v]).foldl (fun t (x:Tmp×Value)=>t.setIfInBounds x.1 x.2) t=(t.setIfInBounds p u).setIfInBounds q v:=by simp
def jR (c:Cal) (A:Option Addr) (a:Nat) (R:Option Addr) (r:Nat) (S:Value):Array Value:= #[I c.bn, .slice A c.au.length a,I c.dA, .slice R c.rules.length r,S]
structure FU (w:World) (y:Int) (b:Bool) (W:World):Prop where
 yr:W.heap[w.heap.size+1]? =some (.cells #[I y] 3 (0,0))
 res:W.heap[w.heap.size+2]? =some (.cells #[.bool b] 4 (0,0))
 up:Below w.heap.size w W
theorem FU.grow {w W W':World} {y:Int} {b:Bool} (h:FU w y b W) (hb:Below W.heap.size W W'):FU w y b W':=
 ⟨(hb.block _ (bV.1 h.yr).1).trans h.yr,(hb.block _ (bV.1 h.res).1).trans h.res,ah h.up hb⟩
theorem FU.sz {w W:World} {y:Int} {b:Bool} (h:FU w y b W):w.heap.size+2<W.heap.size:=(bV.1 h.res).1
theorem FU.start (w:World) (y:Int) (cs:Array Value) (t:TypeId):FU w y false (((w.alloc (.cells cs t)).alloc (.cells #[I y] 3)).alloc (.cells #[.bool false] 4)):=by
 have h1:=heap_alloc_last (w.alloc (.cells cs t)) (.cells #[I y] 3);have h2:=heap_alloc_last ((w.alloc (.cells cs t)).alloc (.cells #[I y] 3)) (.cells #[.bool false] 4);rw [World.size_alloc] at h1;rw [World.size_alloc,World.size_alloc] at h2;exact ⟨(Below.heap_alloc _ _ _ (by simp)).trans h1,h2,(((Below.refl _ w).alloc (Nat.le_refl _) _).alloc (by simp) _).alloc (by simp;omega) _⟩
theorem FU.set {w W:World} {y:Int} {b:Bool} (h:FU w y b W) (v:Bool):FU w y v (W.setCell ⟨w.heap.size+2,0,none⟩ (.bool v)):=by
 refine ⟨(heap_setCell_other W _ _ _ (by show w.heap.size+1≠w.heap.size+2;omega)).trans h.yr,?_,h.up.setCell (p:=⟨w.heap.size+2,0,none⟩) (by show w.heap.size<=w.heap.size+2;omega) _⟩;rw [heap_setCell_same W _ 0 _ _ _ h.res];rfl
theorem OH {w X Y:World} {y:Int} {b:Bool} {B:Nat} {row:Option Nat} (hB:w.heap.size<=B) (hs:FU w y b X) (hg:X.grownBy Y row) (hr:∀r,row=some r->B<=r/\∃o:Obj,X.heap[r]? =some o/\o.isCells=false):FU w y b Y:=by
 have key:∀k cs t,X.heap[k]? =some (Obj.cells cs t (0,0))->Y.heap[k]? =X.heap[k]? :=fun k cs t hk=>
  hg.block k (bV.1 hk).1 fun e=>by
   obtain ⟨_,o,ho,hc⟩:=hr k e.symm;rw [hk] at ho;cases ho;cases hc
 exact ⟨(key _ _ _ hs.yr).trans hs.yr,(key _ _ _ hs.res).trans hs.res,hs.up.grown hg hs.up.size (fun k e=>Nat.le_trans hB (hr k e).1)⟩
theorem lp_own {w:World} {y:Int} {B:Nat} (hB:w.heap.size<=B) {β:Type} (f:β->Prop):OwnFrom B (fun s W=>FU w y false W/\w.heap.size+3<W.heap.size/\f s):=fun _ _ _ _ hs hg hr=>⟨OH hB hs.1 hg hr,dP hs.2.1 hg.size,hs.2.2⟩
end Go.Proofs.YtbaehbbonkljpaaGreatDoor
