/- The texts Kd, in this order. -/
import Derived.Test.YtdibbemgpikgjaaGreatZ00
import Derived.Test.YtdibbemgpikgjaaGreatZ14
set_option maxRecDepth 10000
set_option maxHeartbeats 8000000
namespace Go.Proofs.YtdibbemgpikgjaaGreat
open Go Go.RowKit
def Ee (c:Cal) (bg y:Int) (r r':Yr) (out:List Tr):List Tr:=if (findF c bg y r).2=true then uk out ⟨(findF c bg y r).1*1440+r.minute - r'.off,r.off⟩ else out
def lC (c:Cal) (r0 r1:Yr) (stop:Int):Nat→Int→Int→List Tr→List Tr
 |0,_,_,out=>out
 |n+1,bg,y,out=>if bg<stop then lC c r0 r1 stop n (bg+dK c y) (y+1) (Ee c bg y r1 r0 (Ee c bg y r0 r1 out)) else out
def dP (z:Zn):List Tr:=match z.ay with
 | [r0,r1]=>lC z.cal r0 r1 (z.cal.aN+dL z) 1400 z.cal.aN 1 []
 |_=> []
def df (ts:List Tr) (i:Nat):Int:=(ts[i]?.map (·.at_)).getD 0
def mJ (ts:List Tr) (size:Int) (i:Nat):Int:=(if i+1<ts.length then df ts (i+1) else df ts 0+size) - df ts i
def iE (ts:List Tr) (size:Int):Bool:=(List.range ts.length).all fun i=>decide (2160≤mJ ts size i)
structure wX (r:Yr):Prop where
 mo:r.month=1∨r.month=2
 wk:1≤r.bZ∧r.bZ≤5
 wd:0≤r.cZ∧r.cZ≤6
 mi:0≤r.minute∧r.minute≤1439
 of: -1080≤r.off∧r.off≤1080
theorem pG (c:Cal) (y:Int) (hc:gG c):12≤dK c y:=by
 obtain ⟨ep,m0,m1,lp,rs,rfl,b1,b2,b3,b4,_⟩:=hc.form;simp only [dK,nR,List.getElem?_cons_zero,List.getElem?_cons_succ,Option.getD_some];split<;>omega
theorem Vk (wd wk:Int) (n:Nat):∀d cn la:Int, -1≤la→la≤d→ -1≤(gY wd wk n d cn la).1∧(gY wd wk n d cn la).1≤d+n∨(gY wd wk n d cn la).1=d:=by
 induction n with
 |zero=>intro d cn la h1 h2;exact .inl ⟨h1,by show la≤_;omega⟩
 |succ n ih=>
  intro d cn la h1 h2;unfold gY;split
  ·split
   ·exact .inr rfl
   ·rcases ih (d+1) (cn+1) d (by omega) (by omega) with h|h
    ·exact .inl ⟨h.1,by omega⟩
    ·exact .inl ⟨by omega,by omega⟩
  ·rcases ih (d+1) cn la h1 (by omega) with h|h
   ·exact .inl ⟨h.1,by omega⟩
   ·exact .inl ⟨by omega,by omega⟩
theorem tH (c:Cal) (bg y:Int) (r:Yr) (hc:gG c) (hr:wX r) (hb:0≤bg): -1≤(findF c bg y r).1∧(findF c bg y r).1≤bg+30:=by
 have h1:=jV c y 1 hc (.inl rfl);have h2:=jV c y r.month hc hr.mo;have h3:bg≤nZ c bg y r.month∧nZ c bg y r.month≤bg+9:=by unfold nZ;split<;>omega
 unfold findF;rcases Vk r.cZ r.bZ (dw c y r.month).toNat (nZ c bg y r.month) 0 (-1) (by omega) (by omega) with h|h
 ·omega
 ·omega
theorem QX {ts:List Tr} {t x:Tr} (h:x∈uk ts t):x=t∨x∈ts:=by
 unfold uk at h;rcases List.mem_append.1 h with h|h
 ·exact .inr (List.mem_of_mem_take h)
 ·rcases List.mem_cons.1 h with h|h
  ·exact .inl h
  ·exact .inr (List.mem_of_mem_drop h)
theorem iR.below {lo n c:Nat} {w w':World} {A:Option Addr} {ts:List Tr} (h:iR lo w A n c ts) (hb:Below w.heap.size w w'):iR lo w' A n c ts:=
 World.ownsRow.kept (row:=none) h ⟨hb.os,hb.tape,hb.output,hb.size,fun k hk _=>hb.block k hk⟩ (by cases (Value.slice A n c).ownBlock<;>simp)
structure YS (w:World) (cs:Array Value) (W:World) (A:Option Addr) (n c:Nat) (ts:List Tr):Prop where
 row:Row W w.heap.size cs
 own:iR (w.heap.size+1) W A n c ts
 up:Below w.heap.size w W
 len:ts.length=n
theorem YS.call {w W W':World} {cs:Array Value} {A:Option Addr} {n c:Nat} {ts:List Tr} (h:YS w cs W A n c ts) (hb:Below W.heap.size W W'):YS w cs W' A n c ts:=
 ⟨h.row.keep hb,h.own.below hb,ah h.up hb,h.len⟩
theorem YS.ins {w W W':World} {cs:Array Value} {A A':Option Addr} {n c c':Nat} {ts ts':List Tr} (h:YS w cs W A n c ts) (hb:Below (w.heap.size+1) W W') (ho:iR (w.heap.size+1) W' A' (n+1) c' ts') (hl:ts'.length=n+1):YS w cs W' A' (n+1) c' ts':=
 ⟨⟨dR h.row.1 hb.size,fun i=>(hb.cell (p:=⟨w.heap.size,i,none⟩) (Nat.lt_succ_self _)).trans (h.row.2 i)⟩,ho,h.up.trans (hb.mono (Nat.le_succ _)),hl⟩
theorem YS.lo {w W:World} {cs:Array Value} {A:Option Addr} {n c:Nat} {ts:List Tr} (h:YS w cs W A n c ts):w.heap.size+1≤W.heap.size:=h.row.1
def Gt (ts:List Tr):Prop:=∀x∈ts, -10000000≤x.at_∧x.at_≤100000000
theorem wL {c:Cal} {bg y:Int} {r r':Yr} {ts:List Tr} (h:Gt ts) (hc:gG c) (hr:wX r) (hr':wX r') (hb:0≤bg) (hb2:bg≤10000):Gt (Ee c bg y r r' ts):=by
 have h1:=tH c bg y r hc hr hb;have h2:=hr.mi;have h3:=hr'.of;unfold Ee;split
 ·intro x hx;rcases QX hx with rfl|hx
  ·constructor<;>(simp only;omega)
  ·exact h x hx
 ·exact h
def YRel (w:World) (cs:Array Value) (c:Cal) (r0 r1:Yr) (ep stop:Int) (res:List Tr) (o b y:Value) (wr:World):Prop:=
 ∃(f:Nat) (bg yy:Int) (A:Option Addr) (n cp:Nat) (ts:List Tr),o= .slice A n cp∧b= .int .i64 bg∧y= .int .i64 yy∧1≤yy∧ep+12*(yy - 1)≤bg∧0≤bg∧bg≤stop+100∧(n:Int)≤2*(yy - 1)∧(stop - bg).toNat≤f∧lC c r0 r1 stop f bg yy ts=res∧Gt ts∧YS w cs wr A n cp ts
structure YC (W:World) (b off:Nat) (r0 r1:Yr):Prop where
 a:W.rangeAt b off r0.cells
 b:W.rangeAt b (off+5) r1.cells
def P9 (w:World) (ts:List Tr) (ok:Bool) (e:Ending) (w':World):Prop:=∃A n c,ts.length=n∧e= .returned (.tuple #[.slice A n c, .bool ok])∧iR w.heap.size w' A n c ts∧Below w.heap.size w w'
theorem iR.lower {lo lo' n c:Nat} {w:World} {A:Option Addr} {ts:List Tr} (h:iR lo w A n c ts) (hl:lo'≤lo):iR lo' w A n c ts:=by
 rcases h.2 with h2|⟨g,cap,cur,h1,h2,h3⟩
 ·exact ⟨h.1, .inl h2⟩
 ·exact ⟨h.1, .inr ⟨g,cap,cur,h1,Nat.le_trans hl h2,h3⟩⟩
def GRel (w:World) (cs:Array Value) (A:Option Addr) (n cp:Nat) (ts:List Tr) (size:Int) (i:Value) (wr:World):Prop:=
 ∃k:Nat,k≤n∧i= .int .i64 k∧(∀j,j<k→2160≤mJ ts size j)∧YS w cs wr A n cp ts
theorem jP (z:Zn) (hc:gG z.cal):0≤dL z∧dL z≤1400:=by
 have h1:=EI z.cal hc;unfold dL GZ;split
 ·omega
 ·split<;>omega
theorem tY {c:Cal} {r0 r1:Yr} {stop bg y:Int} {f:Nat} {ts res:List Tr} (h:lC c r0 r1 stop f bg y ts=res) (hb:bg<stop) (hf:(stop - bg).toNat≤f) (hy:12≤dK c y):
  ∃f',(stop - (bg+dK c y)).toNat≤f'∧lC c r0 r1 stop f' (bg+dK c y) (y+1) (Ee c bg y r1 r0 (Ee c bg y r0 r1 ts))=res:=by
 cases f with
 |zero=>omega
 |succ f=>exact ⟨f,by omega,by rw [lC,if_pos hb] at h;exact h⟩
theorem KT {c:Cal} {r0 r1:Yr} {stop bg y:Int} {f:Nat} {ts res:List Tr} (h:lC c r0 r1 stop f bg y ts=res) (hb:¬bg<stop):ts=res:=by
 cases f with
 |zero=>exact h
 |succ f=>rw [lC,if_neg hb] at h;exact h
theorem lQ {ts:List Tr} (k:Nat) (h:Gt ts): -10000000≤df ts k∧df ts k≤100000000:=by
 unfold df;cases e:ts[k]? with
 |none=>simp
 |some x=>exact h x (fK e)
theorem pR {lo g n cp:Nat} {W:World} {ts:List Tr} (h:iR lo W (some ⟨g,0,none⟩) n cp ts) (hl:ts.length=n) (k:Nat) (hk:k<n):W.cell? ⟨g,k*2,none⟩=some (I (df ts k)):=by
 have hx:ts[k]? =some ts[k]:=dE (by omega);rw [World.ownsRow.cellAt h (k*2) (by omega),show k*2=k*2+0 from rfl,flat_get (s:=2) Tr.cells ts (fun _ _=>rfl) k 0 _ hx (by omega)];unfold df;rw [hx];rfl
theorem QC {ts:List Tr} {n:Nat} {size:Int} (hl:ts.length=n) (h:∀j,j<n→2160≤mJ ts size j):iE ts size=true:=by
 unfold iE;rw [List.all_eq_true];intro j hj;exact decide_eq_true (h j (by rw [←hl];exact List.mem_range.1 hj))
theorem LY {ts:List Tr} {n k:Nat} {size:Int} (hl:ts.length=n) (hk:k<n) (h:mJ ts size k<2160):iE ts size=false:=by
 unfold iE;rw [List.all_eq_false];exact ⟨k,List.mem_range.2 (by omega),by simp;omega⟩
theorem DN {ts:List Tr} {k:Nat} {size:Int} (h:∀j,j<k→2160≤mJ ts size j) (h1:2160≤mJ ts size k):∀j,j<k+1→2160≤mJ ts size j:=by
 intro j hj;rcases Nat.lt_succ_iff_lt_or_eq.1 hj with h2|rfl
 ·exact h j h2
 ·exact h1
theorem KR (z:Zn) (s:Zs) (r0 r1:Yr) (w:World) (hc:gG z.cal) (h:gW w w.heap.size s z) (hy:z.ay= [r0,r1]) (hr0:wX r0) (hr1:wX r1) (hlt:z.trans.length≤1000):Calls Tryz.prog 95 #[.agg (aj z s)] w (P9 w (dP z) (iE (dP z) (dL z*1440))):=by
 have rE:Hid (∀W,Below w.heap.size w W→Calls Tryz.prog 97 #[.agg (aj z s)] W (Gives (I (dL z)) W)):=ae fun W hb=>BM z s W hc (h.grow hb);have ZU:Hid (∀(bg y:Int) (x:Yr) W,wX x→0≤bg→bg≤100000→0≤y→Below w.heap.size w W→Calls Tryz.prog 111 #[.agg (aF z.cal s.A s.a s.B s.b),I bg,I y, .agg #[I x.month,I x.bZ,I x.cZ,I x.minute,I x.off]] W (Gives (.tuple #[I (findF z.cal bg y x).1, .bool (findF z.cal bg y x).2]) W)):=
  ae fun bg y x W hx h1 h2 h3 hb=>Qw z.cal s.A s.B s.a s.b bg y x W hc ⟨h.au.grow hb,h.rules.grow hb⟩ h1 h2 h3 hx.mo
 have kX:Hid (∀(y:Int) W,0≤y→Below w.heap.size w W→Calls Tryz.prog 113 #[.agg (aF z.cal s.A s.a s.B s.b),I y] W (Gives (I (dK z.cal y)) W)):=
  ae fun y W h1 hb=>BI z.cal s.A s.B s.a s.b y W hc ⟨h.au.grow hb,h.rules.grow hb⟩ h1
 have hbd:=jP z hc;have QK:=hc.ep;have HC:=ae hc;obtain ⟨yb,yo,hD,hyb,FP⟩:=h.ay.there (by rw [hy];simp [Yr.cells]);have HY:Hid (∀W,Below w.heap.size w W→YC W yb yo r0 r1):=ae fun W hb=>by
  rw [hy] at FP;exact ⟨aU (aB.elem (s:=5) (f:=Yr.cells) (xs:= [r0,r1]) (fun _ _=>rfl) FP 0 r0 rfl) hb hyb,aU (aB.elem (s:=5) (f:=Yr.cells) (xs:= [r0,r1]) (fun _ _=>rfl) FP 1 r1 rfl) hb hyb⟩
 clear FP;obtain ⟨res,hres⟩:∃res,dP z=res:=⟨_,rfl⟩;rw [hres];have hres2:lC z.cal r0 r1 (z.cal.aN+dL z) 1400 z.cal.aN 1 []=res:=by rw [←hres];unfold dP;rw [hy]
 clear hres;obtain ⟨q,hq⟩:∃q,dL z=q:=⟨_,rfl⟩;rw [hq] at rE hbd hres2 ⊢;have jG:=ae hres2;have HR0:=ae hr0;have HR1:=ae hr1;clear hres2 hq hr0 hr1 hc h;obtain ⟨cal,st,tr,ho,yr⟩:=z;obtain ⟨A0,a,R0,r,C0,c0,D0,d0⟩:=s;simp only at hy hD rE ZU kX QK HC jG hlt ⊢;subst hy hD;obtain ⟨ep,uh⟩:∃ep,cal.aN=ep:=⟨_,rfl⟩;rw [uh] at QK jG;obtain ⟨lp,vU⟩:∃lp,cal.bu=lp:=⟨_,rfl⟩;obtain ⟨n0,hn0⟩:∃n,cal.au.length=n:=⟨_,rfl⟩;obtain ⟨n1,hn1⟩:∃n,cal.rules.length=n:=⟨_,rfl⟩;obtain ⟨n2,hn2⟩:∃n,tr.length=n:=⟨_,rfl⟩;unfold aj aF at*;simp only [uh,vU,hn0,hn1,hn2,List.length_cons,List.length_nil,Nat.zero_add,Nat.reduceAdd] at rE ZU kX ⊢;clear uh vU hn0 hn1 hn2 hlt;have HV:Hid (YS w #[I ep, .slice A0 n0 a,I lp, .slice R0 n1 r,I st, .slice C0 n2 c0,I ho, .slice (some ⟨yb,yo,none⟩) 2 d0] ((w.alloc (.cells #[I ep, .slice A0 n0 a,I lp, .slice R0 n1 r,I st, .slice C0 n2 c0,I ho, .slice (some ⟨yb,yo,none⟩) 2 d0] 51)).alloc (.cells #[] 100)) (some ⟨w.heap.size+1,0,none⟩) 0 0 []):=
  ae ⟨(Row.new w _ _).keep (ag _ _),by have h:=gU (w.alloc (.cells #[I ep, .slice A0 n0 a,I lp, .slice R0 n1 r,I st, .slice C0 n2 c0,I ho, .slice (some ⟨yb,yo,none⟩) 2 d0] 51)) 100 2;simpa [iR] using h,ah (ag w _) (ag _ _),rfl⟩
 go_enter Tryz.func95,Tryz.ntmps95;go_wp2_with fail;refine (rE.out _ HV.out.up).mono ?_;rintro e w1 ⟨rfl,hb1⟩;have HW:=ae (HV.out.call hb1);clear hb1 HV rE;have v0:w1.cell? ⟨w.heap.size,0,none⟩=some (I ep):=HW.out.row.2 0;go_wp2_with fail;clear v0
 go_loopw [4,6,7] (fun o b y wr=>YRel w #[I ep, .slice A0 n0 a,I lp, .slice R0 n1 r,I st, .slice C0 n2 c0,I ho, .slice (some ⟨yb,yo,none⟩) 2 d0] cal r0 r1 ep (ep+q) res o b y wr) (fun _ b _ _=>((ep+q) - intOf b).toNat)
 case atStart=>exact ⟨1400,ep,1,_,0,_,[],rfl,by go_num,by go_num,by omega,by omega,by omega,by omega,by omega,by omega,jG.out,(fun _ h=>nomatch h),HW.out⟩
 case round=>
  obtain ⟨f,bg,yy,A,n,cp,ts,rfl,rfl,rfl,hy1,hy2,hb0,hbs,hn2',hf,hyf,htb,hys⟩:=hrel;have HF:=ae hyf;have FO:=ae htb;have HW:=ae hys;have V8:=ae hf;clear hyf htb hys hf;have v0:wr.cell? ⟨w.heap.size,0,none⟩=some (I ep):=HW.out.row.2 0;by_cases hlt:bg<ep+q
  ·clear v0;have v0:wr.cell? ⟨w.heap.size,0,none⟩=some (I ep):=HW.out.row.2 0;have v1:wr.cell? ⟨w.heap.size,1,none⟩=some (.slice A0 n0 a):=HW.out.row.2 1;have v2:wr.cell? ⟨w.heap.size,2,none⟩=some (I lp):=HW.out.row.2 2;have v3:wr.cell? ⟨w.heap.size,3,none⟩=some (.slice R0 n1 r):=HW.out.row.2 3;have v7:wr.cell? ⟨w.heap.size,7,none⟩=some (.slice (some ⟨yb,yo,none⟩) 2 d0):=HW.out.row.2 7;have dF:=ae (HY.out wr HW.out.up);have xM:wr.cell? ⟨yb,yo,none⟩=some (I r0.month):=dF.out.a 0 _ rfl;have xN:wr.cell? ⟨yb,yo+1,none⟩=some (I r0.bZ):=dF.out.a 1 _ rfl;have xO:wr.cell? ⟨yb,yo+2,none⟩=some (I r0.cZ):=dF.out.a 2 _ rfl;have xP:wr.cell? ⟨yb,yo+3,none⟩=some (I r0.minute):=dF.out.a 3 _ rfl;have xQ:wr.cell? ⟨yb,yo+4,none⟩=some (I r0.off):=dF.out.a 4 _ rfl;have xR:wr.cell? ⟨yb,yo+5,none⟩=some (I r1.month):=dF.out.b 0 _ rfl;have xU:wr.cell? ⟨yb,yo+6,none⟩=some (I r1.bZ):=dF.out.b 1 _ rfl;have xW:wr.cell? ⟨yb,yo+7,none⟩=some (I r1.cZ):=dF.out.b 2 _ rfl;have y13:wr.cell? ⟨yb,yo+8,none⟩=some (I r1.minute):=dF.out.b 3 _ rfl;have xX:wr.cell? ⟨yb,yo+9,none⟩=some (I r1.off):=dF.out.b 4 _ rfl;go_wp2_with fail;refine wp_loop_rounds 3 ?_;rw [rounds_succ];go_upto_region 12 with fail;have qH:=ZU.out bg yy r0 wr.drew HR0.out (by omega) (by omega) (by omega) HW.out.up.drew;have UM:=tH cal bg yy r0 HC.out HR0.out (by omega);obtain ⟨pr0,JI⟩:∃pr,findF cal bg yy r0=pr:=⟨_,rfl⟩;rw [JI] at qH UM;have HPR0:=ae JI;obtain ⟨fd0,YG⟩:=pr0;simp only at qH UM;have Pn:=ae qH;clear qH JI
   go_cut [9,10] (fun d ok wx=>d=I fd0∧ok= .bool YG∧YS w #[I ep, .slice A0 n0 a,I lp, .slice R0 n1 r,I st, .slice C0 n2 c0,I ho, .slice (some ⟨yb,yo,none⟩) 2 d0] wx A n cp ts)
   case first=>
    go_region_law (go_simp;go_at_call 111;refine Pn.out.mono ?_;rintro e wf ⟨rfl,hb⟩;have HCF:=ae (HW.out.call (ah (Below.refl _ wr).drew hb));clear hb)
    all_goals
     go_wp2_with fail;go_meet;exact ⟨rfl,rfl,HCF.out⟩
   case rest=>
    obtain ⟨rfl,rfl,hys0⟩:=hcut;have uf:=ae hys0;clear v0 v1 v2 v3 v7 dF xM xN xO xP xQ xR xU xW y13 xX;clear hys0 Pn;obtain ⟨vK,Oa⟩:∃t,Ee cal bg yy r0 r1 ts=t:=⟨_,rfl⟩;have OX:=ae Oa;have HTB0:Hid (Gt vK):=ae (by rw [←OX.out];exact wL FO.out HC.out HR0.out HR1.out (by omega) (by omega));clear Oa;cases YG with
    |false=>
     have hte:vK=ts:=by rw [←OX.out];unfold Ee;rw [HPR0.out];rfl
     have HB0:Hid (YS w #[I ep, .slice A0 n0 a,I lp, .slice R0 n1 r,I st, .slice C0 n2 c0,I ho, .slice (some ⟨yb,yo,none⟩) 2 d0] wc A n cp vK):=ae (by rw [hte];exact uf.out);clear hte;have v0:wc.cell? ⟨w.heap.size,0,none⟩=some (I ep):=HB0.out.row.2 0;have v1:wc.cell? ⟨w.heap.size,1,none⟩=some (.slice A0 n0 a):=HB0.out.row.2 1;have v2:wc.cell? ⟨w.heap.size,2,none⟩=some (I lp):=HB0.out.row.2 2;have v3:wc.cell? ⟨w.heap.size,3,none⟩=some (.slice R0 n1 r):=HB0.out.row.2 3;have v7:wc.cell? ⟨w.heap.size,7,none⟩=some (.slice (some ⟨yb,yo,none⟩) 2 d0):=HB0.out.row.2 7;have dF:=ae (HY.out wc HB0.out.up);have xM:wc.cell? ⟨yb,yo,none⟩=some (I r0.month):=dF.out.a 0 _ rfl;have xN:wc.cell? ⟨yb,yo+1,none⟩=some (I r0.bZ):=dF.out.a 1 _ rfl;have xO:wc.cell? ⟨yb,yo+2,none⟩=some (I r0.cZ):=dF.out.a 2 _ rfl;have xP:wc.cell? ⟨yb,yo+3,none⟩=some (I r0.minute):=dF.out.a 3 _ rfl;have xQ:wc.cell? ⟨yb,yo+4,none⟩=some (I r0.off):=dF.out.a 4 _ rfl;have xR:wc.cell? ⟨yb,yo+5,none⟩=some (I r1.month):=dF.out.b 0 _ rfl;have xU:wc.cell? ⟨yb,yo+6,none⟩=some (I r1.bZ):=dF.out.b 1 _ rfl;have xW:wc.cell? ⟨yb,yo+7,none⟩=some (I r1.cZ):=dF.out.b 2 _ rfl;have y13:wc.cell? ⟨yb,yo+8,none⟩=some (I r1.minute):=dF.out.b 3 _ rfl;have xX:wc.cell? ⟨yb,yo+9,none⟩=some (I r1.off):=dF.out.b 4 _ rfl;go_wp2_with fail;rw [rounds_succ];go_upto_region 12 with fail;have kZ:=ZU.out bg yy r1 wc.drew HR1.out (by omega) (by omega) (by omega) HB0.out.up.drew;have JF:=tH cal bg yy r1 HC.out HR1.out (by omega);obtain ⟨pr1,AO⟩:∃pr,findF cal bg yy r1=pr:=⟨_,rfl⟩;rw [AO] at kZ JF;have PL:=ae AO;obtain ⟨fd1,Tt⟩:=pr1;simp only at kZ JF;have zT:=ae kZ;clear kZ AO
     go_cut [9,10] (fun d ok wx=>d=I fd1∧ok= .bool Tt∧YS w #[I ep, .slice A0 n0 a,I lp, .slice R0 n1 r,I st, .slice C0 n2 c0,I ho, .slice (some ⟨yb,yo,none⟩) 2 d0] wx A n cp vK)
     case first=>
      go_region_law (go_simp;go_at_call 111;refine zT.out.mono ?_;rintro e wf ⟨rfl,hb⟩;have HCF:=ae (HB0.out.call (ah (Below.refl _ wc).drew hb));clear hb)
      all_goals
       go_wp2_with fail;go_meet;exact ⟨rfl,rfl,HCF.out⟩
     case rest=>
      obtain ⟨rfl,rfl,QT⟩:=hcut;have HA1:=ae QT;clear v0 v1 v2 v3 v7 dF xM xN xO xP xQ xR xU xW y13 xX;clear QT zT;obtain ⟨Cb,ES⟩:∃t,Ee cal bg yy r1 r0 vK=t:=⟨_,rfl⟩;have Em:=ae ES;have PR:Hid (Gt Cb):=ae (by rw [←Em.out];exact wL HTB0.out HC.out HR1.out HR0.out (by omega) (by omega));clear ES;cases Tt with
      |false=>
       have hte:Cb=vK:=by rw [←Em.out];unfold Ee;rw [PL.out];rfl
       have HB1:Hid (YS w #[I ep, .slice A0 n0 a,I lp, .slice R0 n1 r,I st, .slice C0 n2 c0,I ho, .slice (some ⟨yb,yo,none⟩) 2 d0] wc A n cp Cb):=ae (by rw [hte];exact HA1.out);clear hte;have v0:wc.cell? ⟨w.heap.size,0,none⟩=some (I ep):=HB1.out.row.2 0;have v1:wc.cell? ⟨w.heap.size,1,none⟩=some (.slice A0 n0 a):=HB1.out.row.2 1;have v2:wc.cell? ⟨w.heap.size,2,none⟩=some (I lp):=HB1.out.row.2 2;have v3:wc.cell? ⟨w.heap.size,3,none⟩=some (.slice R0 n1 r):=HB1.out.row.2 3;have v7:wc.cell? ⟨w.heap.size,7,none⟩=some (.slice (some ⟨yb,yo,none⟩) 2 d0):=HB1.out.row.2 7;have dF:=ae (HY.out wc HB1.out.up);have xM:wc.cell? ⟨yb,yo,none⟩=some (I r0.month):=dF.out.a 0 _ rfl;have xN:wc.cell? ⟨yb,yo+1,none⟩=some (I r0.bZ):=dF.out.a 1 _ rfl;have xO:wc.cell? ⟨yb,yo+2,none⟩=some (I r0.cZ):=dF.out.a 2 _ rfl;have xP:wc.cell? ⟨yb,yo+3,none⟩=some (I r0.minute):=dF.out.a 3 _ rfl;have xQ:wc.cell? ⟨yb,yo+4,none⟩=some (I r0.off):=dF.out.a 4 _ rfl;have xR:wc.cell? ⟨yb,yo+5,none⟩=some (I r1.month):=dF.out.b 0 _ rfl;have xU:wc.cell? ⟨yb,yo+6,none⟩=some (I r1.bZ):=dF.out.b 1 _ rfl;have xW:wc.cell? ⟨yb,yo+7,none⟩=some (I r1.cZ):=dF.out.b 2 _ rfl;have y13:wc.cell? ⟨yb,yo+8,none⟩=some (I r1.minute):=dF.out.b 3 _ rfl;have xX:wc.cell? ⟨yb,yo+9,none⟩=some (I r1.off):=dF.out.b 4 _ rfl;go_wp2_with fail;rw [rounds_succ];go_wp2_with fail;clear v0 v1 v2 v3 v7 dF xM xN xO xP xQ xR xU xW y13 xX;have hge:=pG cal yy HC.out;have hbd2:=jF cal yy HC.out;obtain ⟨f',hf1,hf2⟩:=tY HF.out hlt V8.out hge;rw [OX.out,Em.out] at hf2;have hcy:=kX.out yy wc (by omega) HB1.out.up;obtain ⟨yl,hyl⟩:∃v,dK cal yy=v:=⟨_,rfl⟩;rw [hyl] at hf1 hf2 hcy hge hbd2;have TL:=ae hf1;have HF2:=ae hf2;refine hcy.mono ?_;clear hcy hyl hf1 hf2;rintro e wz ⟨rfl,hb⟩;have HZ:=ae (HB1.out.call hb);clear hb;go_wp2_with fail;go_roundw
       case rel=>exact ⟨f',bg+yl,yy+1,_,n,_,Cb,by first|rfl|go_num,by go_num,by go_num,by omega,by omega,by omega,by omega,by omega,TL.out,HF2.out,PR.out,HZ.out⟩
       case measure=>simp [intOf];omega
      |true=>
       have hte:Cb=uk vK ⟨fd1*1440+r1.minute - r0.off,r1.off⟩:=by rw [←Em.out];unfold Ee;rw [PL.out];rfl
       have XV:=ae hte;have UN:=HR1.out.mi;have UQ:=HR0.out.of;clear hte;have v0:wc.cell? ⟨w.heap.size,0,none⟩=some (I ep):=HA1.out.row.2 0;have v1:wc.cell? ⟨w.heap.size,1,none⟩=some (.slice A0 n0 a):=HA1.out.row.2 1;have v2:wc.cell? ⟨w.heap.size,2,none⟩=some (I lp):=HA1.out.row.2 2;have v3:wc.cell? ⟨w.heap.size,3,none⟩=some (.slice R0 n1 r):=HA1.out.row.2 3;have v7:wc.cell? ⟨w.heap.size,7,none⟩=some (.slice (some ⟨yb,yo,none⟩) 2 d0):=HA1.out.row.2 7;have dF:=ae (HY.out wc HA1.out.up);have xM:wc.cell? ⟨yb,yo,none⟩=some (I r0.month):=dF.out.a 0 _ rfl;have xN:wc.cell? ⟨yb,yo+1,none⟩=some (I r0.bZ):=dF.out.a 1 _ rfl;have xO:wc.cell? ⟨yb,yo+2,none⟩=some (I r0.cZ):=dF.out.a 2 _ rfl;have xP:wc.cell? ⟨yb,yo+3,none⟩=some (I r0.minute):=dF.out.a 3 _ rfl;have xQ:wc.cell? ⟨yb,yo+4,none⟩=some (I r0.off):=dF.out.a 4 _ rfl;have xR:wc.cell? ⟨yb,yo+5,none⟩=some (I r1.month):=dF.out.b 0 _ rfl;have xU:wc.cell? ⟨yb,yo+6,none⟩=some (I r1.bZ):=dF.out.b 1 _ rfl;have xW:wc.cell? ⟨yb,yo+7,none⟩=some (I r1.cZ):=dF.out.b 2 _ rfl;have y13:wc.cell? ⟨yb,yo+8,none⟩=some (I r1.minute):=dF.out.b 3 _ rfl;have xX:wc.cell? ⟨yb,yo+9,none⟩=some (I r1.off):=dF.out.b 4 _ rfl;have hw0:IntKind.i64.wrap 0=0:=by rw [IntKind.wrap_i64];omega
       have hw1:IntKind.i64.wrap 1=1:=by rw [IntKind.wrap_i64];omega
       have hw2:IntKind.i64.wrap (fd1*1440)=fd1*1440:=by rw [IntKind.wrap_i64];omega
       have hw3:IntKind.i64.wrap (fd1*1440+r1.minute)=fd1*1440+r1.minute:=by rw [IntKind.wrap_i64];omega
       have hw4:IntKind.i64.wrap (fd1*1440+r1.minute - r0.off)=fd1*1440+r1.minute - r0.off:=by rw [IntKind.wrap_i64];omega
       go_wp2_with fail;go_still_tail 25,(by kernel_rfl);change wpList _ _ _ _ _ wc.drew;go_wp2_with fail;clear v0 v1 v2 v3 v7 dF xM xN xO xP xQ xR xU xW y13 xX;have hown1:iR (w.heap.size+1) wc.drew A n cp vK:=HA1.out.own;refine (uP (w.heap.size+1) n cp A vK ⟨fd1*1440+r1.minute - r0.off,r1.off⟩ wc.drew HA1.out.len (by omega) HA1.out.lo hown1).mono ?_;clear hown1 UN UQ hw0 hw1 hw2 hw3 hw4;rintro e ry ⟨A1',YA,rfl,hown,hb⟩;have HB1:Hid (YS w #[I ep, .slice A0 n0 a,I lp, .slice R0 n1 r,I st, .slice C0 n2 c0,I ho, .slice (some ⟨yb,yo,none⟩) 2 d0] ry A1' (n+1) YA Cb):=ae (by
        rw [XV.out];exact (HA1.out.call (Below.refl _ wc).drew).ins hb hown (by rw [vY,HA1.out.len]))
       clear hb hown;have v0:ry.cell? ⟨w.heap.size,0,none⟩=some (I ep):=HB1.out.row.2 0;have v1:ry.cell? ⟨w.heap.size,1,none⟩=some (.slice A0 n0 a):=HB1.out.row.2 1;have v2:ry.cell? ⟨w.heap.size,2,none⟩=some (I lp):=HB1.out.row.2 2;have v3:ry.cell? ⟨w.heap.size,3,none⟩=some (.slice R0 n1 r):=HB1.out.row.2 3;have v7:ry.cell? ⟨w.heap.size,7,none⟩=some (.slice (some ⟨yb,yo,none⟩) 2 d0):=HB1.out.row.2 7;have dF:=ae (HY.out ry HB1.out.up);have xM:ry.cell? ⟨yb,yo,none⟩=some (I r0.month):=dF.out.a 0 _ rfl;have xN:ry.cell? ⟨yb,yo+1,none⟩=some (I r0.bZ):=dF.out.a 1 _ rfl;have xO:ry.cell? ⟨yb,yo+2,none⟩=some (I r0.cZ):=dF.out.a 2 _ rfl;have xP:ry.cell? ⟨yb,yo+3,none⟩=some (I r0.minute):=dF.out.a 3 _ rfl;have xQ:ry.cell? ⟨yb,yo+4,none⟩=some (I r0.off):=dF.out.a 4 _ rfl;have xR:ry.cell? ⟨yb,yo+5,none⟩=some (I r1.month):=dF.out.b 0 _ rfl;have xU:ry.cell? ⟨yb,yo+6,none⟩=some (I r1.bZ):=dF.out.b 1 _ rfl;have xW:ry.cell? ⟨yb,yo+7,none⟩=some (I r1.cZ):=dF.out.b 2 _ rfl;have y13:ry.cell? ⟨yb,yo+8,none⟩=some (I r1.minute):=dF.out.b 3 _ rfl;have xX:ry.cell? ⟨yb,yo+9,none⟩=some (I r1.off):=dF.out.b 4 _ rfl;go_wp2_with fail;rw [rounds_succ];go_wp2_with fail;clear v0 v1 v2 v3 v7 dF xM xN xO xP xQ xR xU xW y13 xX;have hge:=pG cal yy HC.out;have hbd2:=jF cal yy HC.out;obtain ⟨f',hf1,hf2⟩:=tY HF.out hlt V8.out hge;rw [OX.out,Em.out] at hf2;have hcy:=kX.out yy ry (by omega) HB1.out.up;obtain ⟨yl,hyl⟩:∃v,dK cal yy=v:=⟨_,rfl⟩;rw [hyl] at hf1 hf2 hcy hge hbd2;have TL:=ae hf1;have HF2:=ae hf2;refine hcy.mono ?_;clear hcy hyl hf1 hf2;rintro e wz ⟨rfl,hb⟩;have HZ:=ae (HB1.out.call hb);clear hb;go_wp2_with fail;go_roundw
       case rel=>exact ⟨f',bg+yl,yy+1,_,(n+1),_,Cb,by first|rfl|go_num,by go_num,by go_num,by omega,by omega,by omega,by omega,by omega,TL.out,HF2.out,PR.out,HZ.out⟩
       case measure=>simp [intOf];omega
    |true=>
     have hte:vK=uk ts ⟨fd0*1440+r0.minute - r1.off,r0.off⟩:=by rw [←OX.out];unfold Ee;rw [HPR0.out];rfl
     have HTE0:=ae hte;have hmi0:=HR0.out.mi;have hof0:=HR1.out.of;clear hte;have v0:wc.cell? ⟨w.heap.size,0,none⟩=some (I ep):=uf.out.row.2 0;have v1:wc.cell? ⟨w.heap.size,1,none⟩=some (.slice A0 n0 a):=uf.out.row.2 1;have v2:wc.cell? ⟨w.heap.size,2,none⟩=some (I lp):=uf.out.row.2 2;have v3:wc.cell? ⟨w.heap.size,3,none⟩=some (.slice R0 n1 r):=uf.out.row.2 3;have v7:wc.cell? ⟨w.heap.size,7,none⟩=some (.slice (some ⟨yb,yo,none⟩) 2 d0):=uf.out.row.2 7;have dF:=ae (HY.out wc uf.out.up);have xM:wc.cell? ⟨yb,yo,none⟩=some (I r0.month):=dF.out.a 0 _ rfl;have xN:wc.cell? ⟨yb,yo+1,none⟩=some (I r0.bZ):=dF.out.a 1 _ rfl;have xO:wc.cell? ⟨yb,yo+2,none⟩=some (I r0.cZ):=dF.out.a 2 _ rfl;have xP:wc.cell? ⟨yb,yo+3,none⟩=some (I r0.minute):=dF.out.a 3 _ rfl;have xQ:wc.cell? ⟨yb,yo+4,none⟩=some (I r0.off):=dF.out.a 4 _ rfl;have xR:wc.cell? ⟨yb,yo+5,none⟩=some (I r1.month):=dF.out.b 0 _ rfl;have xU:wc.cell? ⟨yb,yo+6,none⟩=some (I r1.bZ):=dF.out.b 1 _ rfl;have xW:wc.cell? ⟨yb,yo+7,none⟩=some (I r1.cZ):=dF.out.b 2 _ rfl;have y13:wc.cell? ⟨yb,yo+8,none⟩=some (I r1.minute):=dF.out.b 3 _ rfl;have xX:wc.cell? ⟨yb,yo+9,none⟩=some (I r1.off):=dF.out.b 4 _ rfl;have hw0:IntKind.i64.wrap 0=0:=by rw [IntKind.wrap_i64];omega
     have hw1:IntKind.i64.wrap 1=1:=by rw [IntKind.wrap_i64];omega
     have hw2:IntKind.i64.wrap (fd0*1440)=fd0*1440:=by rw [IntKind.wrap_i64];omega
     have hw3:IntKind.i64.wrap (fd0*1440+r0.minute)=fd0*1440+r0.minute:=by rw [IntKind.wrap_i64];omega
     have hw4:IntKind.i64.wrap (fd0*1440+r0.minute - r1.off)=fd0*1440+r0.minute - r1.off:=by rw [IntKind.wrap_i64];omega
     go_wp2_with fail;go_still_tail 25,(by kernel_rfl);change wpList _ _ _ _ _ wc.drew;go_wp2_with fail;clear v0 v1 v2 v3 v7 dF xM xN xO xP xQ xR xU xW y13 xX;have hown0:iR (w.heap.size+1) wc.drew A n cp ts:=uf.out.own;refine (uP (w.heap.size+1) n cp A ts ⟨fd0*1440+r0.minute - r1.off,r0.off⟩ wc.drew uf.out.len (by omega) uf.out.lo hown0).mono ?_;clear hown0 hmi0 hof0 hw0 hw1 hw2 hw3 hw4;rintro e Fp ⟨A0',Qm,rfl,hown,hb⟩;have HB0:Hid (YS w #[I ep, .slice A0 n0 a,I lp, .slice R0 n1 r,I st, .slice C0 n2 c0,I ho, .slice (some ⟨yb,yo,none⟩) 2 d0] Fp A0' (n+1) Qm vK):=ae (by
      rw [HTE0.out];exact (uf.out.call (Below.refl _ wc).drew).ins hb hown (by rw [vY,uf.out.len]))
     clear hb hown;have v0:Fp.cell? ⟨w.heap.size,0,none⟩=some (I ep):=HB0.out.row.2 0;have v1:Fp.cell? ⟨w.heap.size,1,none⟩=some (.slice A0 n0 a):=HB0.out.row.2 1;have v2:Fp.cell? ⟨w.heap.size,2,none⟩=some (I lp):=HB0.out.row.2 2;have v3:Fp.cell? ⟨w.heap.size,3,none⟩=some (.slice R0 n1 r):=HB0.out.row.2 3;have v7:Fp.cell? ⟨w.heap.size,7,none⟩=some (.slice (some ⟨yb,yo,none⟩) 2 d0):=HB0.out.row.2 7;have dF:=ae (HY.out Fp HB0.out.up);have xM:Fp.cell? ⟨yb,yo,none⟩=some (I r0.month):=dF.out.a 0 _ rfl;have xN:Fp.cell? ⟨yb,yo+1,none⟩=some (I r0.bZ):=dF.out.a 1 _ rfl;have xO:Fp.cell? ⟨yb,yo+2,none⟩=some (I r0.cZ):=dF.out.a 2 _ rfl;have xP:Fp.cell? ⟨yb,yo+3,none⟩=some (I r0.minute):=dF.out.a 3 _ rfl;have xQ:Fp.cell? ⟨yb,yo+4,none⟩=some (I r0.off):=dF.out.a 4 _ rfl;have xR:Fp.cell? ⟨yb,yo+5,none⟩=some (I r1.month):=dF.out.b 0 _ rfl;have xU:Fp.cell? ⟨yb,yo+6,none⟩=some (I r1.bZ):=dF.out.b 1 _ rfl;have xW:Fp.cell? ⟨yb,yo+7,none⟩=some (I r1.cZ):=dF.out.b 2 _ rfl;have y13:Fp.cell? ⟨yb,yo+8,none⟩=some (I r1.minute):=dF.out.b 3 _ rfl;have xX:Fp.cell? ⟨yb,yo+9,none⟩=some (I r1.off):=dF.out.b 4 _ rfl;go_wp2_with fail;rw [rounds_succ];go_upto_region 12 with fail;have kZ:=ZU.out bg yy r1 Fp.drew HR1.out (by omega) (by omega) (by omega) HB0.out.up.drew;have JF:=tH cal bg yy r1 HC.out HR1.out (by omega);obtain ⟨pr1,AO⟩:∃pr,findF cal bg yy r1=pr:=⟨_,rfl⟩;rw [AO] at kZ JF;have PL:=ae AO;obtain ⟨fd1,Tt⟩:=pr1;simp only at kZ JF;have zT:=ae kZ;clear kZ AO
     go_cut [9,10] (fun d ok wx=>d=I fd1∧ok= .bool Tt∧YS w #[I ep, .slice A0 n0 a,I lp, .slice R0 n1 r,I st, .slice C0 n2 c0,I ho, .slice (some ⟨yb,yo,none⟩) 2 d0] wx A0' (n+1) Qm vK)
     case first=>
      go_region_law (go_simp;go_at_call 111;refine zT.out.mono ?_;rintro e wf ⟨rfl,hb⟩;have HCF:=ae (HB0.out.call (ah (Below.refl _ Fp).drew hb));clear hb)
      all_goals
       go_wp2_with fail;go_meet;exact ⟨rfl,rfl,HCF.out⟩
     case rest=>
      obtain ⟨rfl,rfl,QT⟩:=hcut;have HA1:=ae QT;clear v0 v1 v2 v3 v7 dF xM xN xO xP xQ xR xU xW y13 xX;clear QT zT;obtain ⟨Cb,ES⟩:∃t,Ee cal bg yy r1 r0 vK=t:=⟨_,rfl⟩;have Em:=ae ES;have PR:Hid (Gt Cb):=ae (by rw [←Em.out];exact wL HTB0.out HC.out HR1.out HR0.out (by omega) (by omega));clear ES;cases Tt with
      |false=>
       have hte:Cb=vK:=by rw [←Em.out];unfold Ee;rw [PL.out];rfl
       have HB1:Hid (YS w #[I ep, .slice A0 n0 a,I lp, .slice R0 n1 r,I st, .slice C0 n2 c0,I ho, .slice (some ⟨yb,yo,none⟩) 2 d0] wc A0' (n+1) Qm Cb):=ae (by rw [hte];exact HA1.out);clear hte;have v0:wc.cell? ⟨w.heap.size,0,none⟩=some (I ep):=HB1.out.row.2 0;have v1:wc.cell? ⟨w.heap.size,1,none⟩=some (.slice A0 n0 a):=HB1.out.row.2 1;have v2:wc.cell? ⟨w.heap.size,2,none⟩=some (I lp):=HB1.out.row.2 2;have v3:wc.cell? ⟨w.heap.size,3,none⟩=some (.slice R0 n1 r):=HB1.out.row.2 3;have v7:wc.cell? ⟨w.heap.size,7,none⟩=some (.slice (some ⟨yb,yo,none⟩) 2 d0):=HB1.out.row.2 7;have dF:=ae (HY.out wc HB1.out.up);have xM:wc.cell? ⟨yb,yo,none⟩=some (I r0.month):=dF.out.a 0 _ rfl;have xN:wc.cell? ⟨yb,yo+1,none⟩=some (I r0.bZ):=dF.out.a 1 _ rfl;have xO:wc.cell? ⟨yb,yo+2,none⟩=some (I r0.cZ):=dF.out.a 2 _ rfl;have xP:wc.cell? ⟨yb,yo+3,none⟩=some (I r0.minute):=dF.out.a 3 _ rfl;have xQ:wc.cell? ⟨yb,yo+4,none⟩=some (I r0.off):=dF.out.a 4 _ rfl;have xR:wc.cell? ⟨yb,yo+5,none⟩=some (I r1.month):=dF.out.b 0 _ rfl;have xU:wc.cell? ⟨yb,yo+6,none⟩=some (I r1.bZ):=dF.out.b 1 _ rfl;have xW:wc.cell? ⟨yb,yo+7,none⟩=some (I r1.cZ):=dF.out.b 2 _ rfl;have y13:wc.cell? ⟨yb,yo+8,none⟩=some (I r1.minute):=dF.out.b 3 _ rfl;have xX:wc.cell? ⟨yb,yo+9,none⟩=some (I r1.off):=dF.out.b 4 _ rfl;go_wp2_with fail;rw [rounds_succ];go_wp2_with fail;clear v0 v1 v2 v3 v7 dF xM xN xO xP xQ xR xU xW y13 xX;have hge:=pG cal yy HC.out;have hbd2:=jF cal yy HC.out;obtain ⟨f',hf1,hf2⟩:=tY HF.out hlt V8.out hge;rw [OX.out,Em.out] at hf2;have hcy:=kX.out yy wc (by omega) HB1.out.up;obtain ⟨yl,hyl⟩:∃v,dK cal yy=v:=⟨_,rfl⟩;rw [hyl] at hf1 hf2 hcy hge hbd2;have TL:=ae hf1;have HF2:=ae hf2;refine hcy.mono ?_;clear hcy hyl hf1 hf2;rintro e wz ⟨rfl,hb⟩;have HZ:=ae (HB1.out.call hb);clear hb;go_wp2_with fail;go_roundw
       case rel=>exact ⟨f',bg+yl,yy+1,_,(n+1),_,Cb,by first|rfl|go_num,by go_num,by go_num,by omega,by omega,by omega,by omega,by omega,TL.out,HF2.out,PR.out,HZ.out⟩
       case measure=>simp [intOf];omega
      |true=>
       have hte:Cb=uk vK ⟨fd1*1440+r1.minute - r0.off,r1.off⟩:=by rw [←Em.out];unfold Ee;rw [PL.out];rfl
       have XV:=ae hte;have UN:=HR1.out.mi;have UQ:=HR0.out.of;clear hte;have v0:wc.cell? ⟨w.heap.size,0,none⟩=some (I ep):=HA1.out.row.2 0;have v1:wc.cell? ⟨w.heap.size,1,none⟩=some (.slice A0 n0 a):=HA1.out.row.2 1;have v2:wc.cell? ⟨w.heap.size,2,none⟩=some (I lp):=HA1.out.row.2 2;have v3:wc.cell? ⟨w.heap.size,3,none⟩=some (.slice R0 n1 r):=HA1.out.row.2 3;have v7:wc.cell? ⟨w.heap.size,7,none⟩=some (.slice (some ⟨yb,yo,none⟩) 2 d0):=HA1.out.row.2 7;have dF:=ae (HY.out wc HA1.out.up);have xM:wc.cell? ⟨yb,yo,none⟩=some (I r0.month):=dF.out.a 0 _ rfl;have xN:wc.cell? ⟨yb,yo+1,none⟩=some (I r0.bZ):=dF.out.a 1 _ rfl;have xO:wc.cell? ⟨yb,yo+2,none⟩=some (I r0.cZ):=dF.out.a 2 _ rfl;have xP:wc.cell? ⟨yb,yo+3,none⟩=some (I r0.minute):=dF.out.a 3 _ rfl;have xQ:wc.cell? ⟨yb,yo+4,none⟩=some (I r0.off):=dF.out.a 4 _ rfl;have xR:wc.cell? ⟨yb,yo+5,none⟩=some (I r1.month):=dF.out.b 0 _ rfl;have xU:wc.cell? ⟨yb,yo+6,none⟩=some (I r1.bZ):=dF.out.b 1 _ rfl;have xW:wc.cell? ⟨yb,yo+7,none⟩=some (I r1.cZ):=dF.out.b 2 _ rfl;have y13:wc.cell? ⟨yb,yo+8,none⟩=some (I r1.minute):=dF.out.b 3 _ rfl;have xX:wc.cell? ⟨yb,yo+9,none⟩=some (I r1.off):=dF.out.b 4 _ rfl;have hw0:IntKind.i64.wrap 0=0:=by rw [IntKind.wrap_i64];omega
       have hw1:IntKind.i64.wrap 1=1:=by rw [IntKind.wrap_i64];omega
       have hw2:IntKind.i64.wrap (fd1*1440)=fd1*1440:=by rw [IntKind.wrap_i64];omega
       have hw3:IntKind.i64.wrap (fd1*1440+r1.minute)=fd1*1440+r1.minute:=by rw [IntKind.wrap_i64];omega
       have hw4:IntKind.i64.wrap (fd1*1440+r1.minute - r0.off)=fd1*1440+r1.minute - r0.off:=by rw [IntKind.wrap_i64];omega
       go_wp2_with fail;go_still_tail 25,(by kernel_rfl);change wpList _ _ _ _ _ wc.drew;go_wp2_with fail;clear v0 v1 v2 v3 v7 dF xM xN xO xP xQ xR xU xW y13 xX;have hown1:iR (w.heap.size+1) wc.drew A0' (n+1) Qm vK:=HA1.out.own;refine (uP (w.heap.size+1) (n+1) Qm A0' vK ⟨fd1*1440+r1.minute - r0.off,r1.off⟩ wc.drew HA1.out.len (by omega) HA1.out.lo hown1).mono ?_;clear hown1 UN UQ hw0 hw1 hw2 hw3 hw4;rintro e ry ⟨A1',YA,rfl,hown,hb⟩;have HB1:Hid (YS w #[I ep, .slice A0 n0 a,I lp, .slice R0 n1 r,I st, .slice C0 n2 c0,I ho, .slice (some ⟨yb,yo,none⟩) 2 d0] ry A1' ((n+1)+1) YA Cb):=ae (by
        rw [XV.out];exact (HA1.out.call (Below.refl _ wc).drew).ins hb hown (by rw [vY,HA1.out.len]))
       clear hb hown;have v0:ry.cell? ⟨w.heap.size,0,none⟩=some (I ep):=HB1.out.row.2 0;have v1:ry.cell? ⟨w.heap.size,1,none⟩=some (.slice A0 n0 a):=HB1.out.row.2 1;have v2:ry.cell? ⟨w.heap.size,2,none⟩=some (I lp):=HB1.out.row.2 2;have v3:ry.cell? ⟨w.heap.size,3,none⟩=some (.slice R0 n1 r):=HB1.out.row.2 3;have v7:ry.cell? ⟨w.heap.size,7,none⟩=some (.slice (some ⟨yb,yo,none⟩) 2 d0):=HB1.out.row.2 7;have dF:=ae (HY.out ry HB1.out.up);have xM:ry.cell? ⟨yb,yo,none⟩=some (I r0.month):=dF.out.a 0 _ rfl;have xN:ry.cell? ⟨yb,yo+1,none⟩=some (I r0.bZ):=dF.out.a 1 _ rfl;have xO:ry.cell? ⟨yb,yo+2,none⟩=some (I r0.cZ):=dF.out.a 2 _ rfl;have xP:ry.cell? ⟨yb,yo+3,none⟩=some (I r0.minute):=dF.out.a 3 _ rfl;have xQ:ry.cell? ⟨yb,yo+4,none⟩=some (I r0.off):=dF.out.a 4 _ rfl;have xR:ry.cell? ⟨yb,yo+5,none⟩=some (I r1.month):=dF.out.b 0 _ rfl;have xU:ry.cell? ⟨yb,yo+6,none⟩=some (I r1.bZ):=dF.out.b 1 _ rfl;have xW:ry.cell? ⟨yb,yo+7,none⟩=some (I r1.cZ):=dF.out.b 2 _ rfl;have y13:ry.cell? ⟨yb,yo+8,none⟩=some (I r1.minute):=dF.out.b 3 _ rfl;have xX:ry.cell? ⟨yb,yo+9,none⟩=some (I r1.off):=dF.out.b 4 _ rfl;go_wp2_with fail;rw [rounds_succ];go_wp2_with fail;clear v0 v1 v2 v3 v7 dF xM xN xO xP xQ xR xU xW y13 xX;have hge:=pG cal yy HC.out;have hbd2:=jF cal yy HC.out;obtain ⟨f',hf1,hf2⟩:=tY HF.out hlt V8.out hge;rw [OX.out,Em.out] at hf2;have hcy:=kX.out yy ry (by omega) HB1.out.up;obtain ⟨yl,hyl⟩:∃v,dK cal yy=v:=⟨_,rfl⟩;rw [hyl] at hf1 hf2 hcy hge hbd2;have TL:=ae hf1;have HF2:=ae hf2;refine hcy.mono ?_;clear hcy hyl hf1 hf2;rintro e wz ⟨rfl,hb⟩;have HZ:=ae (HB1.out.call hb);clear hb;go_wp2_with fail;go_roundw
       case rel=>exact ⟨f',bg+yl,yy+1,_,((n+1)+1),_,Cb,by first|rfl|go_num,by go_num,by go_num,by omega,by omega,by omega,by omega,by omega,TL.out,HF2.out,PR.out,HZ.out⟩
       case measure=>simp [intOf];omega
  ·have hts:=KT HF.out hlt;subst hts;have hb0':Hid True:=ae trivial;clear hb0';go_wp2_with fail;clear v0 hlt;have hle:=HW.out.len;rcases Nat.eq_zero_or_pos n with hn0|hn0
   ·subst hn0;refine wp_loop_rounds 1 ?_;rw [rounds_succ];go_wp2_with fail;go_ret2;exact ⟨A,0,cp,hle,by rw [show iE ts (q*1440)=true by rw [List.eq_nil_of_length_eq_zero hle];rfl];rfl,HW.out.own.lower (Nat.le_succ _),HW.out.up⟩
   ·obtain ⟨g,cap,hgv, -⟩:=gV HW.out.own hn0;injection hgv with hA hB hC;subst hA hC;clear hB;have PE:=ae hle;have hnb:n≤1000:=by omega
    clear hle hy1 hy2 hb0 hbs hn2';have Gl:=ae (fun k=>lQ k FO.out);clear FO HF V8 ZU kX
    go_loopw [11] (fun i wr=>GRel w #[I ep, .slice A0 n0 a,I lp, .slice R0 n1 r,I st, .slice C0 n2 c0,I ho, .slice (some ⟨yb,yo,none⟩) 2 d0] (some ⟨g,0,none⟩) n cp ts (q*1440) i wr) (fun i _=>n - (intOf i).toNat)
    case atStart=>exact ⟨0,Nat.zero_le _,by go_num,(fun _ h=>absurd h (Nat.not_lt_zero _)),HW.out⟩
    case round=>
     obtain ⟨k,hk,rfl,hall,hys⟩:=hrel;have kS:=ae hall;have HX:=ae hys;clear hall hys HW;by_cases hlt:k<n
     ·have x0:=pR HX.out.own HX.out.len 0 hn0;have x1:=pR HX.out.own HX.out.len k hlt;rw [Nat.zero_mul] at x0;have hb0:=Gl.out 0;have hb1:=Gl.out k;obtain ⟨a0,ha0⟩:∃v,df ts 0=v:=⟨_,rfl⟩;obtain ⟨a1,ha1⟩:∃v,df ts k=v:=⟨_,rfl⟩;rw [ha0] at x0 hb0;rw [ha1] at x1 hb1;have uf:=ae ha0;have HA1:=ae ha1;clear ha0 ha1;have i0:(0:Int)≤(k:Int):=by omega
      have i1:(k:Int)<(n:Int):=by omega
      have i2:(0:Int)<(n:Int):=by omega
      by_cases hlt1:k+1<n
      ·have x2:=pR HX.out.own HX.out.len (k+1) hlt1;have hb2:=Gl.out (k+1);obtain ⟨a2,ha2⟩:∃v,df ts (k+1)=v:=⟨_,rfl⟩;rw [ha2] at x2 hb2;have HA2:=ae ha2;clear ha2;have i3:(k:Int)+1<(n:Int):=by omega
       have HG:Hid (mJ ts (q*1440) k=a2 - a1):=ae (by unfold mJ;rw [PE.out,if_pos hlt1,HA2.out,HA1.out]);by_cases xG:a2 - a1<2160
       ·go_wp2_with fail;go_ret2;exact ⟨_,n,_,PE.out,by rw [LY PE.out hlt (by rw [HG.out];exact xG)];rfl,HX.out.own.lower (Nat.le_succ _),HX.out.up⟩
       ·go_wp2_with fail;go_roundw
        case rel=>exact ⟨k+1,by omega,by go_num,DN kS.out (by rw [HG.out];omega),HX.out⟩
        case measure=>simp [intOf];omega
      ·have i3:¬(k:Int)+1<(n:Int):=by omega
       have HG:Hid (mJ ts (q*1440) k=a0+q*1440 - a1):=ae (by unfold mJ;rw [PE.out,if_neg hlt1,uf.out,HA1.out]);by_cases xG:a0+q*1440 - a1<2160
       ·go_wp2_with fail;go_ret2;exact ⟨_,n,_,PE.out,by rw [LY PE.out hlt (by rw [HG.out];exact xG)];rfl,HX.out.own.lower (Nat.le_succ _),HX.out.up⟩
       ·go_wp2_with fail;go_roundw
        case rel=>exact ⟨k+1,by omega,by go_num,DN kS.out (by rw [HG.out];omega),HX.out⟩
        case measure=>simp [intOf];omega
     ·have hnl:¬(k:Int)<(n:Int):=by omega
      have lG:Hid (k=n):=ae (by omega);go_wp2_with fail;go_ret2;exact ⟨_,n,_,PE.out,by rw [QC PE.out (by rw [←lG.out];exact kS.out)];rfl,HX.out.own.lower (Nat.le_succ _),HX.out.up⟩
end Go.Proofs.YtdibbemgpikgjaaGreat
